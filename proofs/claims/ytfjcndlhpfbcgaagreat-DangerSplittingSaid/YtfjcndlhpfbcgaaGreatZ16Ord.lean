/- The order of sets: what both texts compute. -/
import Derived.Test.YtfjcndlhpfbcgaaGreatZ16Block
import Derived.Test.YtfjcndlhpfbcgaaGreatZ16Sort12
namespace Go.Proofs.YtfjcndlhpfbcgaaGreat
open Go Go.Ab Go.Sort
def leOf {α : Type} {a b : Option α} (_ : Le a b) : Option α := a
def pc (n : Nat) : Nat := (nodes n).length
set_option maxRecDepth 100000 in
theorem qvz : ((List.range 1024).all fun n => decide (leOf (qx6 (n : Int)) = some ((pc n : Nat) : Int))) = true := by kernel_rfl
theorem y1d {n : Nat} (h : n < 1024) : z5x (n : Int) = some ((pc n : Nat) : Int) := by
  have h1 := List.all_eq_true.1 qvz n (List.mem_range.2 h)
  simp only [decide_eq_true_eq] at h1
  apply y5n
  rw [qx6 (n : Int) _ h1]
  rfl
theorem pc_le (n : Nat) : pc n ≤ 10 := q6o n
def okS (s : Int) : Bool := decide (0 ≤ s) && decide (s < 1024)
theorem q5d (s : Int) : z1o s = some (okS s) := by
  apply qyz
  have : z2n s 10 = some (okS s) := by
    apply qua
    unfold okS
    by_cases h0 : 0 ≤ s
    · rw [q0f h0]
      simp only [cond_true]
      rw [q0m (by decide), shl1 (by decide) (by decide)]
      by_cases h1 : s < 1024
      · rw [q05 (by simpa using h1)]; simp [h0, h1]
      · rw [q02 (by simpa using h1)]; simp [h0, h1]
    · rw [q0a (by omega)]; simp [h0]
  rw [this]; rfl
theorem q6s (s : Int) : z1h s = some (okS s) := by
  apply qy3
  unfold okS
  by_cases h0 : 0 ≤ s
  · rw [q0f h0]
    by_cases h1 : s < 1024
    · rw [q0f (show s ≤ 1023 by omega)]; simp [h0, h1]
    · rw [q0a (show 1023 < s by omega)]; simp [h0, h1]
  · rw [q0a (by omega)]; simp [h0]
theorem q48 {n : Nat} (h : n < 1024) : okS (n : Int) = true := by simp [okS]; omega
theorem y5s {s : Int} (h : okS s = true) : ∃ n : Nat, s = (n : Int) ∧ n < 1024 := by
  simp only [okS, Bool.and_eq_true, decide_eq_true_eq] at h
  exact ⟨s.toNat, by omega, by omega⟩
theorem qbt {n : Nat} (h : n < 1024) : z4s (n : Int) = some ((pc n : Nat) : Int) := by
  apply y62
  rw [q5d, q48 h]
  simp only [Option.bind_some, Bool.not_true, cond_false]
  rw [wrapU (by omega), y1d h]
  rfl
def rank (s : Int) : Int := if okS s then ((pc s.toNat : Nat) : Int) else -1
theorem qef {n : Nat} (h : n < 1024) : rank (n : Int) = ((pc n : Nat) : Int) := by simp [rank, q48 h]
theorem qtd (s : Int) : z66 s = some (rank s) := by
  apply y55
  rw [q5d]
  simp only [Option.bind_some]
  cases h : okS s with
  | false => simp [rank, h]
  | true =>
    obtain ⟨n, rfl, hn⟩ := y5s h
    rw [qbt hn]
    simp [rank, h]
def cmpI (a b : Int) : Int := if a < b then -1 else if b < a then 1 else 0
theorem qrw (a b : Int) : z4j a b = some (cmpI a b) := by
  apply y36
  have h1 : ∀ x, z5h x = some false := fun x => by apply y5f; rw [q0h]
  rw [h1, h1]
  simp only [Option.bind_some, cond_false]
  unfold cmpI
  by_cases h : a < b
  · rw [q05 h]; simp [h]
  · rw [q02 (by omega)]
    by_cases h' : b < a
    · rw [q05 h']; simp [h, h']
    · rw [q02 (by omega)]; simp [h, h']
theorem y4g (a b : Int) : z6r [a, b] = some (if a ≠ 0 then a else b) := by
  apply y3h
  apply qrv
  rw [q05 (by simp)]
  simp only [cond_true]
  rw [q10 (by decide) (show [a, b][(0 : Int).toNat]? = some a from rfl)]
  by_cases h : a ≠ 0
  · rw [q18 h, if_pos h]; rfl
  · have h0 : a = 0 := by omega
    rw [h0, q0h]
    simp only [cond_false]
    rw [show addI .i64 0 1 = 1 from rfl]
    apply qrv
    rw [q05 (by simp)]
    simp only [cond_true]
    rw [q10 (by decide) (show [(0 : Int), b][(1 : Int).toNat]? = some b from rfl)]
    by_cases hb : b ≠ 0
    · rw [q18 hb]; simp
    · have hb0 : b = 0 := by omega
      rw [hb0, q0h]
      simp only [cond_false]
      rw [show addI .i64 1 1 = 2 from rfl]
      apply qrv
      rw [q02 (by simp)]
      simp
def ncmp (a b : Int) : Int := if cmpI (rank a) (rank b) ≠ 0 then cmpI (rank a) (rank b) else cmpI a b
theorem y05 (a b : Int) : z08 a b = some (ncmp a b) := by
  apply y1v
  rw [qtd, qtd]
  simp only [Option.bind_some]
  rw [qrw, qrw]
  simp only [Option.bind_some]
  rw [y4g]
  rfl
theorem qj7 (a b : Int) : ltB (ncmp a b) 0 = decide (rank a < rank b ∨ rank a = rank b ∧ a < b) := by
  unfold ncmp cmpI
  by_cases h1 : rank a < rank b
  · simp [h1, ltB]
  · by_cases h2 : rank b < rank a
    · have : ¬ rank a = rank b := by omega
      simp [h1, h2, this, ltB]
    · have : rank a = rank b := by omega
      by_cases h3 : a < b
      · simp [this, h3, ltB]
      · by_cases h4 : b < a <;> simp [this, h3, h4, ltB]
theorem qwk : SWO (fun x y => ltB (ncmp x y) 0) where
  irrefl x := by simp [qj7]
  trans x y z := by simp only [qj7, decide_eq_true_eq]; omega
  ntrans x y z := by simp only [qj7, decide_eq_false_iff_not]; omega
theorem q3o (s : Nat) : ∀ n i, (q0u s (n + 1) i).length = (if s.testBit i then 1 else 0) + (q0u s n (i + 1)).length := by
  intro n i
  simp only [q0u]
  cases s.testBit i <;> simp <;> omega
theorem qj0 {s : Nat} (hs : s < 1024) : ∀ (n i c : Nat), i + n = 10 → c ≤ i → z54 (s : Int) (c : Int) (i : Int) = some ((c + (q0u s n i).length : Nat) : Int)
  | 0, i, c, h, hc => by
    apply qzz
    rw [q02 (by omega)]
    rfl
  | n + 1, i, c, h, hc => by
    apply qzz
    rw [q05 (by omega), q6s, q48 hs]
    simp only [cond_true, Option.bind_some]
    rw [q0m (by omega), qp6 _ _ (by omega)]
    have e1 : andI .i64 ((s >>> i : Nat) : Int) 1 = (((s >>> i) &&& 1 : Nat) : Int) := q2q (b := 1) (Nat.lt_of_le_of_lt (Nat.shiftRight_le _ _) (by omega)) (by decide)
    rw [e1, qc2, q04 (by omega), q3o]
    cases s.testBit i with
    | true =>
      simp only [if_true]
      rw [show ((1 : Nat) : Int) = 1 from rfl, q04 (by omega), qj0 hs n (i + 1) (c + 1) (by omega) (by omega)]
      congr 2; omega
    | false =>
      simp only [Bool.false_eq_true, if_false]
      rw [show addI .i64 (c : Int) ((0 : Nat) : Int) = (c : Int) by rw [q1k (by omega) (by omega)]; omega, qj0 hs n (i + 1) c (by omega) (by omega)]
      congr 2; omega
theorem q73 {s : Nat} (hs : s < 1024) : z4p (s : Int) = some ((pc s : Nat) : Int) := by
  apply y3f
  have := qj0 hs 10 0 0 rfl (Nat.le_refl _)
  rw [Nat.zero_add] at this
  exact this
theorem y0v {a b : Nat} (ha : a < 1024) (hb : b < 1024) : z5o (a : Int) (b : Int) = some (ncmp a b) := by
  apply y2d
  rw [q6s, q48 ha, q6s, q48 hb, q73 ha]
  simp only [Option.bind_some, cond_true]
  rw [q73 hb]
  simp only [Option.bind_some]
  unfold ncmp cmpI
  rw [qef ha, qef hb]
  by_cases h1 : pc a < pc b
  · rw [q05 (by omega)]
    have : ((pc a : Nat) : Int) < ((pc b : Nat) : Int) := by omega
    simp [this]
  · rw [q02 (by omega)]
    by_cases h2 : pc a = pc b
    · rw [h2, q0t]
      by_cases h3 : a < b
      · rw [q05 (by omega)]
        have : (a : Int) < (b : Int) := by omega
        simp [this]
      · rw [q02 (by omega)]
        by_cases h4 : a = b
        · rw [h4, q0t]; simp
        · rw [q0z (by omega)]
          have h5 : ¬ (a : Int) < (b : Int) := by omega
          have h6 : (b : Int) < (a : Int) := by omega
          simp [h5, h6]
    · rw [q0z (by omega)]
      have h5 : ¬ ((pc a : Nat) : Int) < ((pc b : Nat) : Int) := by omega
      have h6 : ((pc b : Nat) : Int) < ((pc a : Nat) : Int) := by omega
      simp [h5, h6]
def nlt (a b : Nat) : Prop := pc a < pc b ∨ pc a = pc b ∧ a < b
theorem q3a (a : Nat) : ¬ nlt a a := by unfold nlt; omega
theorem q8o {a b c : Nat} (h : nlt a b) (h' : nlt b c) : nlt a c := by unfold nlt at *; omega
theorem qfn (a b : Nat) : nlt a b ∨ a = b ∨ nlt b a := by unfold nlt; omega
theorem qjp {a b : Nat} (ha : a < 1024) (hb : b < 1024) : ltB (ncmp a b) 0 = true ↔ nlt a b := by
  rw [qj7, qef ha, qef hb, decide_eq_true_eq]
  unfold nlt
  omega
theorem q9s {a b : Nat} (h : Sub a b) : ∀ n i, (q0u a n i).length ≤ (q0u b n i).length ∧ ((q0u a n i).length = (q0u b n i).length → ∀ j, i ≤ j → j < i + n → a.testBit j = b.testBit j)
  | 0, i => ⟨Nat.le_refl _, fun _ j h1 h2 => by omega⟩
  | n + 1, i => by
    obtain ⟨h1, h2⟩ := q9s h n (i + 1)
    rw [q3o, q3o]
    have hi := h i
    cases ha : a.testBit i with
    | true =>
      rw [ha] at hi
      rw [hi rfl]
      refine ⟨by omega, fun e j hj hj2 => ?_⟩
      by_cases hji : j = i
      · subst hji; rw [ha, hi rfl]
      · exact h2 (by omega) j (by omega) (by omega)
    | false =>
      cases hb : b.testBit i with
      | true => exact ⟨by simp; omega, fun e => by simp at e; omega⟩
      | false =>
        refine ⟨by simpa using h1, fun e j hj hj2 => ?_⟩
        by_cases hji : j = i
        · subst hji; rw [ha, hb]
        · exact h2 (by simpa using e) j (by omega) (by omega)
theorem qqa {a b : Nat} (ha : a < 1024) (hb : b < 1024) (h : Sub a b) (hne : a ≠ b) : nlt a b := by
  obtain ⟨h1, h2⟩ := q9s h 10 0
  refine .inl (Nat.lt_of_le_of_ne h1 fun e => hne ?_)
  apply Nat.eq_of_testBit_eq
  intro j
  by_cases hj : j < 10
  · exact h2 e j (by omega) (by omega)
  · have : ∀ {s : Nat}, s < 1024 → s.testBit j = false := fun {s} hs => by
      cases hb : s.testBit j with
      | false => rfl
      | true => exact absurd (q3g hs hb) hj
    rw [this ha, this hb]
theorem q9j : ∀ {l l' : List Nat}, l.Pairwise nlt → l'.Pairwise nlt → (∀ s, s ∈ l ↔ s ∈ l') → l = l'
  | [], [], _, _, _ => rfl
  | [], y :: r, _, _, h => by have := (h y).2 (by simp); cases this
  | x :: r, [], _, _, h => by have := (h x).1 (by simp); cases this
  | x :: r, y :: r', hp, hp', h => by
    rw [List.pairwise_cons] at hp hp'
    have hxy : x = y := by
      rcases List.mem_cons.1 ((h x).1 (by simp)) with e | e
      · exact e
      · rcases List.mem_cons.1 ((h y).2 (by simp)) with e' | e'
        · exact e'.symm
        · exact absurd (q8o (hp.1 y e') (hp'.1 x e)) (q3a _)
    subst hxy
    rw [q9j hp.2 hp'.2 fun s => ?_]
    constructor
    · intro hs
      rcases List.mem_cons.1 ((h s).1 (by simp [hs])) with e | e
      · subst e; exact absurd (hp.1 s hs) (q3a _)
      · exact e
    · intro hs
      rcases List.mem_cons.1 ((h s).2 (by simp [hs])) with e | e
      · subst e; exact absurd (hp'.1 s hs) (q3a _)
      · exact e
end Go.Proofs.YtfjcndlhpfbcgaaGreat
