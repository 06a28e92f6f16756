/- The order of sets: what both texts compute. -/
import Derived.Test.YtfjcndlhpfbcgaaP16Block
import Derived.Test.YtfjcndlhpfbcgaaP16Sort12
namespace Go.Proofs.Ytfjcndlhpfbcgaa
open Go Go.Ab Go.Sort
def leOf {α : Type} {a b : Option α} (_ : Le a b) : Option α := a
def pc (n : Nat) : Nat := (nodes n).length
set_option maxRecDepth 100000 in
theorem ones_tab : ((List.range 1024).all fun n => decide (leOf (z3c_le (n : Int)) = some ((pc n : Nat) : Int))) = true := by kernel_rfl
theorem ones_ok {n : Nat} (h : n < 1024) : z3j (n : Int) = some ((pc n : Nat) : Int) := by
  have h1 := List.all_eq_true.1 ones_tab n (List.mem_range.2 h)
  simp only [decide_eq_true_eq] at h1
  apply z3j_le
  rw [z3c_le (n : Int) _ h1]
  rfl
theorem pc_le (n : Nat) : pc n ≤ 10 := nodes_len n
def okS (s : Int) : Bool := decide (0 ≤ s) && decide (s < 1024)
theorem nvalid_ok (s : Int) : z1j s = some (okS s) := by
  apply z1j_le
  have : z1w s 10 = some (okS s) := by
    apply z1w_le
    unfold okS
    by_cases h0 : 0 ≤ s
    · rw [leB_true h0]
      simp only [cond_true]
      rw [chk_true (by decide), shl1 (by decide) (by decide)]
      by_cases h1 : s < 1024
      · rw [ltB_true (by simpa using h1)]; simp [h0, h1]
      · rw [ltB_false (by simpa using h1)]; simp [h0, h1]
    · rw [leB_false (by omega)]; simp [h0]
  rw [this]; rfl
theorem rvalid_ok (s : Int) : z3s s = some (okS s) := by
  apply z3s_le
  unfold okS
  by_cases h0 : 0 ≤ s
  · rw [leB_true h0]
    by_cases h1 : s < 1024
    · rw [leB_true (show s ≤ 1023 by omega)]; simp [h0, h1]
    · rw [leB_false (show 1023 < s by omega)]; simp [h0, h1]
  · rw [leB_false (by omega)]; simp [h0]
theorem okS_nat {n : Nat} (h : n < 1024) : okS (n : Int) = true := by simp [okS]; omega
theorem okS_of {s : Int} (h : okS s = true) : ∃ n : Nat, s = (n : Int) ∧ n < 1024 := by
  simp only [okS, Bool.and_eq_true, decide_eq_true_eq] at h
  exact ⟨s.toNat, by omega, by omega⟩
theorem nsize_ok {n : Nat} (h : n < 1024) : z2u (n : Int) = some ((pc n : Nat) : Int) := by
  apply z2u_le
  rw [nvalid_ok, okS_nat h]
  simp only [Option.bind_some, Bool.not_true, cond_false]
  rw [wrapU (by omega), ones_ok h]
  rfl
def rank (s : Int) : Int := if okS s then ((pc s.toNat : Nat) : Int) else -1
theorem rank_nat {n : Nat} (h : n < 1024) : rank (n : Int) = ((pc n : Nat) : Int) := by simp [rank, okS_nat h]
theorem rank_ok (s : Int) : z3o s = some (rank s) := by
  apply z3o_le
  rw [nvalid_ok]
  simp only [Option.bind_some]
  cases h : okS s with
  | false => simp [rank, h]
  | true =>
    obtain ⟨n, rfl, hn⟩ := okS_of h
    rw [nsize_ok hn]
    simp [rank, h]
def cmpI (a b : Int) : Int := if a < b then -1 else if b < a then 1 else 0
theorem cmpI_ok (a b : Int) : z2o a b = some (cmpI a b) := by
  apply z2o_le
  have h1 : ∀ x, z3a x = some false := fun x => by apply z3a_le; rw [neB_self]
  rw [h1, h1]
  simp only [Option.bind_some, cond_false]
  unfold cmpI
  by_cases h : a < b
  · rw [ltB_true h]; simp [h]
  · rw [ltB_false (by omega)]
    by_cases h' : b < a
    · rw [ltB_true h']; simp [h, h']
    · rw [ltB_false (by omega)]; simp [h, h']
theorem or2_ok (a b : Int) : z3t [a, b] = some (if a ≠ 0 then a else b) := by
  apply z3t_le
  apply z2q_le
  rw [ltB_true (by simp)]
  simp only [cond_true]
  rw [nth_get (by decide) (show [a, b][(0 : Int).toNat]? = some a from rfl)]
  by_cases h : a ≠ 0
  · rw [neB_ne h, if_pos h]; rfl
  · have h0 : a = 0 := by omega
    rw [h0, neB_self]
    simp only [cond_false]
    rw [show addI .i64 0 1 = 1 from rfl]
    apply z2q_le
    rw [ltB_true (by simp)]
    simp only [cond_true]
    rw [nth_get (by decide) (show [(0 : Int), b][(1 : Int).toNat]? = some b from rfl)]
    by_cases hb : b ≠ 0
    · rw [neB_ne hb]; simp
    · have hb0 : b = 0 := by omega
      rw [hb0, neB_self]
      simp only [cond_false]
      rw [show addI .i64 1 1 = 2 from rfl]
      apply z2q_le
      rw [ltB_false (by simp)]
      simp
def ncmp (a b : Int) : Int := if cmpI (rank a) (rank b) ≠ 0 then cmpI (rank a) (rank b) else cmpI a b
theorem ncmp_ok (a b : Int) : z08 a b = some (ncmp a b) := by
  apply z08_le
  rw [rank_ok, rank_ok]
  simp only [Option.bind_some]
  rw [cmpI_ok, cmpI_ok]
  simp only [Option.bind_some]
  rw [or2_ok]
  rfl
theorem ncmp_lt (a b : Int) : ltB (ncmp a b) 0 = decide (rank a < rank b ∨ rank a = rank b ∧ a < b) := by
  unfold ncmp cmpI
  by_cases h1 : rank a < rank b
  · simp [h1, ltB]
  · by_cases h2 : rank b < rank a
    · have : ¬ rank a = rank b := by omega
      simp [h1, h2, this, ltB]
    · have : rank a = rank b := by omega
      by_cases h3 : a < b
      · simp [this, h3, ltB]
      · by_cases h4 : b < a <;> simp [this, h3, h4, ltB]
theorem ncmp_swo : SWO (fun x y => ltB (ncmp x y) 0) where
  irrefl x := by simp [ncmp_lt]
  trans x y z := by simp only [ncmp_lt, decide_eq_true_eq]; omega
  ntrans x y z := by simp only [ncmp_lt, decide_eq_false_iff_not]; omega
theorem pc_succ_aux (s : Nat) : ∀ n i, (nodesFrom s (n + 1) i).length = (if s.testBit i then 1 else 0) + (nodesFrom s n (i + 1)).length := by
  intro n i
  simp only [nodesFrom]
  cases s.testBit i <;> simp <;> omega
theorem rsize_l1 {s : Nat} (hs : s < 1024) : ∀ (n i c : Nat), i + n = 10 → c ≤ i → z30 (s : Int) (c : Int) (i : Int) = some ((c + (nodesFrom s n i).length : Nat) : Int)
  | 0, i, c, h, hc => by
    apply z30_le
    rw [ltB_false (by omega)]
    rfl
  | n + 1, i, c, h, hc => by
    apply z30_le
    rw [ltB_true (by omega), rvalid_ok, okS_nat hs]
    simp only [cond_true, Option.bind_some]
    rw [chk_true (by omega), shrI_nat _ _ (by omega)]
    have e1 : andI .i64 ((s >>> i : Nat) : Int) 1 = (((s >>> i) &&& 1 : Nat) : Int) := andI_nat (b := 1) (Nat.lt_of_le_of_lt (Nat.shiftRight_le _ _) (by omega)) (by decide)
    rw [e1, shift_and_one, next_nat (by omega), pc_succ_aux]
    cases s.testBit i with
    | true =>
      simp only [if_true]
      rw [show ((1 : Nat) : Int) = 1 from rfl, next_nat (by omega), rsize_l1 hs n (i + 1) (c + 1) (by omega) (by omega)]
      congr 2; omega
    | false =>
      simp only [Bool.false_eq_true, if_false]
      rw [show addI .i64 (c : Int) ((0 : Nat) : Int) = (c : Int) by rw [addI64 (by omega) (by omega)]; omega, rsize_l1 hs n (i + 1) c (by omega) (by omega)]
      congr 2; omega
theorem rsize_ok {s : Nat} (hs : s < 1024) : z2r (s : Int) = some ((pc s : Nat) : Int) := by
  apply z2r_le
  have := rsize_l1 hs 10 0 0 rfl (Nat.le_refl _)
  rw [Nat.zero_add] at this
  exact this
def nlt (a b : Nat) : Prop := pc a < pc b ∨ pc a = pc b ∧ a < b
theorem nlt_irrefl (a : Nat) : ¬ nlt a a := by unfold nlt; omega
theorem nlt_trans {a b c : Nat} (h : nlt a b) (h' : nlt b c) : nlt a c := by unfold nlt at *; omega
theorem nlt_total (a b : Nat) : nlt a b ∨ a = b ∨ nlt b a := by unfold nlt; omega
theorem ncmp_nat {a b : Nat} (ha : a < 1024) (hb : b < 1024) : ltB (ncmp a b) 0 = true ↔ nlt a b := by
  rw [ncmp_lt, rank_nat ha, rank_nat hb, decide_eq_true_eq]
  unfold nlt
  omega
theorem pc_sub_aux {a b : Nat} (h : Sub a b) : ∀ n i, (nodesFrom a n i).length ≤ (nodesFrom b n i).length ∧ ((nodesFrom a n i).length = (nodesFrom b n i).length → ∀ j, i ≤ j → j < i + n → a.testBit j = b.testBit j)
  | 0, i => ⟨Nat.le_refl _, fun _ j h1 h2 => by omega⟩
  | n + 1, i => by
    obtain ⟨h1, h2⟩ := pc_sub_aux h n (i + 1)
    rw [pc_succ_aux, pc_succ_aux]
    have hi := h i
    cases ha : a.testBit i with
    | true =>
      rw [ha] at hi
      rw [hi rfl]
      refine ⟨by omega, fun e j hj hj2 => ?_⟩
      by_cases hji : j = i
      · subst hji; rw [ha, hi rfl]
      · exact h2 (by omega) j (by omega) (by omega)
    | false =>
      cases hb : b.testBit i with
      | true => exact ⟨by simp; omega, fun e => by simp at e; omega⟩
      | false =>
        refine ⟨by simpa using h1, fun e j hj hj2 => ?_⟩
        by_cases hji : j = i
        · subst hji; rw [ha, hb]
        · exact h2 (by simpa using e) j (by omega) (by omega)
theorem nlt_of_sub {a b : Nat} (ha : a < 1024) (hb : b < 1024) (h : Sub a b) (hne : a ≠ b) : nlt a b := by
  obtain ⟨h1, h2⟩ := pc_sub_aux h 10 0
  refine .inl (Nat.lt_of_le_of_ne h1 fun e => hne ?_)
  apply Nat.eq_of_testBit_eq
  intro j
  by_cases hj : j < 10
  · exact h2 e j (by omega) (by omega)
  · have : ∀ {s : Nat}, s < 1024 → s.testBit j = false := fun {s} hs => by
      cases hb : s.testBit j with
      | false => rfl
      | true => exact absurd (bit_lt_of hs hb) hj
    rw [this ha, this hb]
theorem ord_unique : ∀ {l l' : List Nat}, l.Pairwise nlt → l'.Pairwise nlt → (∀ s, s ∈ l ↔ s ∈ l') → l = l'
  | [], [], _, _, _ => rfl
  | [], y :: r, _, _, h => by have := (h y).2 (by simp); cases this
  | x :: r, [], _, _, h => by have := (h x).1 (by simp); cases this
  | x :: r, y :: r', hp, hp', h => by
    rw [List.pairwise_cons] at hp hp'
    have hxy : x = y := by
      rcases List.mem_cons.1 ((h x).1 (by simp)) with e | e
      · exact e
      · rcases List.mem_cons.1 ((h y).2 (by simp)) with e' | e'
        · exact e'.symm
        · exact absurd (nlt_trans (hp.1 y e') (hp'.1 x e)) (nlt_irrefl _)
    subst hxy
    rw [ord_unique hp.2 hp'.2 fun s => ?_]
    constructor
    · intro hs
      rcases List.mem_cons.1 ((h s).1 (by simp [hs])) with e | e
      · subst e; exact absurd (hp.1 s hs) (nlt_irrefl _)
      · exact e
    · intro hs
      rcases List.mem_cons.1 ((h s).2 (by simp [hs])) with e | e
      · subst e; exact absurd (hp'.1 s hs) (nlt_irrefl _)
      · exact e
end Go.Proofs.Ytfjcndlhpfbcgaa
