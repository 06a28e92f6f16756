/- The tape, drawn trusts, deletion: walks and plain facts. -/
import Derived.Test.YtbmelgbadedbbaaGreatP14Spec
namespace Go.Proofs.YtbmelgbadedbbaaGreat
open Go Go.Ab
def q0n (l : List Int) (i : Int) : Prop := 0 ≤ i ∧ i ≤ 400 ∧ l.length ≤ 400
theorem y5h (t : List Int) : ∃ l, z6u t = some ((), l, 0) ∧ q0n l 0 := by
 by_cases h : 400 < ((t.length : Nat) : Int)
 ·refine ⟨List.drop 0 (List.take 400 t), ?_, by simp [q0n]; omega⟩
  apply qz6;rw [if_pos h, q7l (by decide) (by omega)]
  rfl
 ·refine ⟨List.drop 0 (List.take t.length t), ?_, by simp [q0n]; omega⟩
  apply qz6;rw [if_neg h, q7l (by omega) (by omega)]
  simp only [Int.toNat_natCast]
theorem N_ok {n : Int} {l : List Int} {i : Int} (hn : 0 < n) (hn2 : n < 4611686018427387904) (h : q0n l i) :
  ∃ v j, z11 n l i = some (v, l, j) ∧ 0 ≤ v ∧ v < n ∧ q0n l j := by
 obtain ⟨h0, h1, h2⟩ := h;by_cases hl : ((l.length : Nat) : Int) ≤ i
 ·refine ⟨0, i, ?_, by omega, hn, h0, h1, h2⟩
  apply qtf;simp only [q0e hl, cond_true]
 ·have hi : i.toNat < l.length := by omega
  have hg : l[i.toNat]? = some l[i.toNat] := List.getElem?_eq_getElem hi;generalize l[i.toNat] = y at hg;have b1 := Int.tmod_lt_of_pos y hn;have b2 := Int.lt_tmod_of_pos y hn;have hne : n ≠ 0 := by omega
  have hj : addI .i64 i 1 = i + 1 := q1n (by omega) (by omega)
  by_cases hr : y.tmod n < 0
  ·refine ⟨y.tmod n + n, i + 1, ?_, by omega, by omega, by omega, by omega, h2⟩
   apply qtf;simp only [q09 (Int.not_le.1 hl), cond_false, q0v h0 hg, q0q hne, hj];rw [show remI .i64 y n = y.tmod n from rfl, q03 hr, q1n (by omega) (by omega)]
   rfl
  ·refine ⟨y.tmod n, i + 1, ?_, by omega, by omega, by omega, by omega, h2⟩
   apply qtf;simp only [q09 (Int.not_le.1 hl), cond_false, q0v h0 hg, q0q hne, hj];rw [show remI .i64 y n = y.tmod n from rfl, q00 (by omega)]
   rfl
theorem q64 {a b : Int} {l : List Int} {i : Int} (hab : a ≤ b) (ha : -1000000 ≤ a) (hb : b ≤ 1000000) (h : q0n l i) :
  ∃ v j, z19 a b l i = some (v, l, j) ∧ a ≤ v ∧ v ≤ b ∧ q0n l j := by
 obtain ⟨v, j, h1, h2, h3, h4⟩ := N_ok (n := b - a + 1) (by omega) (by omega) h
 refine ⟨a + v, j, ?_, by omega, by omega, h4⟩
 apply y79;rw [q22 (by omega) (by omega), q1n (by omega) (by omega), h1]
 simp only [Option.bind_some];rw [q1n (by omega) (by omega)]
theorem qan {ps : List Int} {l : List Int} {i : Int} (hp : 0 < ps.length) (hp2 : ps.length < 1000000) (h : q0n l i) :
  ∃ v j, z1c ps l i = some (v, l, j) ∧ v ∈ ps ∧ q0n l j := by
 obtain ⟨v, j, h1, h2, h3, h4⟩ := N_ok (n := ((ps.length : Nat) : Int)) (by omega) (by omega) h
 have hi : v.toNat < ps.length := by omega
 refine ⟨ps[v.toNat], j, ?_, List.getElem_mem hi, h4⟩;apply y40;rw [h1];simp only [Option.bind_some, q0v h2 (List.getElem?_eq_getElem hi)]
theorem qpg {l : List Int} (B : Int) : ∀ (k : Nat) (a : List Int) (c : Int) (i : Int), c.toNat = k → c < ((a.length : Nat) : Int) → a.length ≤ 1000 → (∀ x ∈ a, 0 ≤ x ∧ x < B) → q0n l i →
  ∃ p j, z3g a c l i = some (p, l, j) ∧ p.length = a.length ∧ (∀ x ∈ p, 0 ≤ x ∧ x < B) ∧ q0n l j
 | 0, a, c, i, hk, hc, ha, hm, h => by
  refine ⟨a, i, ?_, rfl, hm, h⟩;apply y1b;simp only [q00 (show c ≤ 0 by omega), cond_false]
 | k + 1, a, c, i, hk, hc, ha, hm, h => by
  obtain ⟨v, j, h1, h2, h3, h4⟩ := N_ok (n := c + 1) (by omega) (by omega) h
  have hv : v.toNat < a.length := by omega
  have hcl : c.toNat < a.length := by omega
  have g1 : a[v.toNat]? = some a[v.toNat] := List.getElem?_eq_getElem hv;have g2 : a[c.toNat]? = some a[c.toNat] := List.getElem?_eq_getElem hcl;have m1 := hm _ (List.getElem_mem hv);have m2 := hm _ (List.getElem_mem hcl);generalize a[v.toNat] = y1 at g1 m1;generalize a[c.toNat] = y2 at g2 m2;have hl1 : v.toNat < (List.set a c.toNat y1).length := by simpa using hv
  have g3 : (List.set a c.toNat y1)[v.toNat]? = some (List.set a c.toNat y1)[v.toNat] := List.getElem?_eq_getElem hl1;generalize (List.set a c.toNat y1)[v.toNat] = y3 at g3;have hm' : ∀ x ∈ List.set (List.set a c.toNat y1) v.toNat y2, 0 ≤ x ∧ x < B := by
   intro x hx;rcases List.mem_or_eq_of_mem_set hx with hx | rfl
   ·rcases List.mem_or_eq_of_mem_set hx with hx | rfl
    ·exact hm x hx
    ·exact m1
   ·exact m2
  obtain ⟨p, j', h5, h6, h7, h8⟩ := qpg B k (List.set (List.set a c.toNat y1) v.toNat y2) (c - 1) j (by omega) (by simp; omega) (by simpa using ha) hm' h4
  refine ⟨p, j', ?_, by simpa using h6, h7, h8⟩
  apply y1b;rw [q03 (by omega), q1n (by omega) (by omega), h1, q22 (by omega) (by omega)]
  simp only [cond_true, Option.bind_some, q0v h2 g1, q0v (show 0 ≤ c by omega) g2, q39 g1, q39 g2, q0v h2 g3, q39 g3]
  exact h5
theorem qrk {l : List Int} (n : Int) (hn : n ≤ 1000) : ∀ (k : Nat) (a : List Int) (i : Int), n - ((a.length : Nat) : Int) = ((k : Nat) : Int) → (∀ x ∈ a, 0 ≤ x ∧ x < n) → q0n l i →
  ∃ p j, z3f n a ((a.length : Nat) : Int) l i = some (p, l, j) ∧ ((p.length : Nat) : Int) = n ∧ (∀ x ∈ p, 0 ≤ x ∧ x < n) ∧ q0n l j
 | 0, a, i, hk, hm, h => by
  obtain ⟨p, j, h1, h2, h3, h4⟩ := qpg n (n - 1).toNat a (n - 1) i rfl (by omega) (by omega) hm h
  refine ⟨p, j, ?_, by omega, h3, h4⟩
  apply y1a;rw [q00 (by omega), q22 (by omega) (by omega)]
  simp only [cond_false, h1]
 | k + 1, a, i, hk, hm, h => by
  obtain ⟨p, j, h1, h2, h3, h4⟩ := qrk n hn k (a ++ [((a.length : Nat) : Int)]) i (by simp; omega) (by
   intro x hx;rcases List.mem_append.1 hx with hx | hx
   ·exact hm x hx
   ·rw [List.mem_singleton] at hx; subst hx; omega) h
  refine ⟨p, j, ?_, h2, h3, h4⟩;apply y1a;rw [q03 (by omega), q06 (by simp [q0f]; omega), q02 (by omega)]
  simp only [cond_true];rw [← h1];congr 1
  simp
theorem qpk {n : Int} {l : List Int} {i : Int} (h0 : 0 ≤ n) (hn : n ≤ 1000) (h : q0n l i) :
  ∃ p j, z5v n l i = some (p, l, j) ∧ ((p.length : Nat) : Int) = n ∧ (∀ x ∈ p, 0 ≤ x ∧ x < n) ∧ q0n l j := by
 obtain ⟨p, j, h1, h2, h3, h4⟩ := qrk n hn n.toNat [] i (by simp; omega) (by simp) h
 exact ⟨p, j, y6u _ _ _ _ h1, h2, h3, h4⟩
theorem q60 (a b : List Trust) : sizes (a ++ b) = sizes a + sizes b := by
 induction a with
 | nil => simp [sizes]
 | cons x r ih => simp only [List.cons_append, sizes, ih]; omega
theorem qjo (a1 a3 : Int) (xs : List Int) (hl : xs.length ≤ 10) (a13 : List Int) (a15 a17 : Int) (a19 : List Int) (a21 : List Trust) (a23 : Int) (a27 : List Trust) :
  ∀ (suf : List Int) (i : Nat) (acc : List Int), xs.drop i = suf → i ≤ xs.length → acc.length ≤ i →
  Le (z4k a1 a3 xs ((xs.length : Nat) : Int) ((xs.length : Nat) : Int) a13 a15 a17 a19 a21 a23 (acc ++ suf) a27) (z4k a1 a3 xs ((xs.length : Nat) : Int) (i : Int) a13 a15 a17 a19 a21 a23 acc a27)
 | [], i, acc, h, hi, ha => by
  have h1 : xs.length ≤ i := List.drop_eq_nil_iff.1 h;have : i = xs.length := by omega
  subst this; rw [List.append_nil]; exact Le.refl _
 | y :: suf, i, acc, h, hi, ha => fun r hr => by
  have hlt := q0i h;apply qu6;simp only [q0a h, cond_true, q08 h, q02 (show i < 4611686018427387904 by omega)]
  rw [q06 (by simp [q0f]; omega)]
  refine qjo a1 a3 xs hl a13 a15 a17 a19 a21 a23 a27 suf (i + 1) (acc ++ [y]) (q04 h) (by omega) (by simp; omega) r ?_
  rw [List.append_assoc]; exact hr
def bound : Nat → Nat
 | 0 => 8
 | d + 1 => 8 + 3 * bound d
theorem qqe : ∀ d, d ≤ bound d
 | 0 => by simp [bound]
 | d + 1 => by have := qqe d; simp only [bound]; omega
theorem qf1 (thr : Int) (a : List Int) (b : List Trust) : size (Trust.mk thr a b) = a.length + b.length + sizes b := by simp only [size]
mutual
def below (m : Int) : Trust → Bool
 | ⟨_, nodes, inner⟩ => nodes.all (fun k => decide (0 ≤ k) && decide (k < m)) && q4b m inner
def q4b (m : Int) : List Trust → Bool
 | [] => true
 | x :: r => below m x && q4b m r
end
theorem qq8 (m : Int) (t : Trust) : below m t = (t.Nodes.all (fun k => decide (0 ≤ k) && decide (k < m)) && q4b m t.Inner) := by cases t; simp only [below]
theorem qiy (m : Int) (a b : List Trust) : q4b m (a ++ b) = (q4b m a && q4b m b) := by
 induction a with
 | nil => simp [q4b]
 | cons x r ih => simp only [List.cons_append, q4b, ih, Bool.and_assoc]
theorem qvg {m : Int} {l : List Int} (h : ∀ x ∈ l, 0 ≤ x ∧ x < m) : l.all (fun k => decide (0 ≤ k) && decide (k < m)) = true := by
 rw [List.all_eq_true]; intro x hx; have := h x hx; simp [this.1, this.2]
theorem q7m {m thr : Int} {a : List Int} {b : List Trust} (ha : ∀ x ∈ a, 0 ≤ x ∧ x < m) (hb : q4b m b = true) : below m ⟨thr, a, b⟩ = true := by
 simp only [below, qvg ha, hb, Bool.and_self]
theorem qpz {n : Int} {l : List Int} {d : Nat} (hd : bound d < 1000000) (IH : ∀ i, q0n l i → ∃ t j, z62 n (d + 1 : Nat) l i = some (t, l, j) ∧ (size t ≤ bound d ∧ below n t = true) ∧ q0n l j) (a13 : Int) (a15 : List Int) (a17 : List Trust) (a19 : Int) (a21 : List Int) (h5 : 1 ≤ a21.length) (h6 : a21.length ≤ 5) (hN : ∀ x ∈ a21, 0 ≤ x ∧ x < n) :
  ∀ (k : Nat) (i : Int) (acc : List Trust), acc.length + k ≤ 3 → (sizes acc ≤ acc.length * bound d ∧ q4b n acc = true) → q0n l i →
  ∃ t j, z4l n ((d + 2 : Nat) : Int) (k : Int) l i a13 a15 a17 a19 a21 acc = some (t, l, j) ∧ (size t ≤ bound (d + 1) ∧ below n t = true) ∧ q0n l j
 | 0, i, acc, ha, hs, h => by
  obtain ⟨hs, hbl⟩ := hs;have hb : sizes acc ≤ 3 * bound d := Nat.le_trans hs (Nat.mul_le_mul_right _ (by omega))
  have fin : ∀ (q : List Int) (i' : Int), q.length ≤ 5 → 1 ≤ q.length + acc.length → (∀ x ∈ q, 0 ≤ x ∧ x < n) → q0n l i' → ∃ v j, z19 1 (addI .i64 ((q.length : Nat) : Int) ((acc.length : Nat) : Int)) l i' = some (v, l, j) ∧ (size (Trust.mk v q acc) ≤ bound (d + 1) ∧ below n (Trust.mk v q acc) = true) ∧ q0n l j := by
   intro q i' hq hq1 hqn h';rw [q1n (by omega) (by omega)]
   obtain ⟨v, j, g1, g2, g3, g4⟩ := q64 (a := 1) (b := ((q.length : Nat) : Int) + ((acc.length : Nat) : Int)) (by omega) (by omega) (by omega) h'
   exact ⟨v, j, g1, ⟨by rw [qf1]; simp only [bound]; omega, q7m hqn hbl⟩, g4⟩
  by_cases h0 : acc.length = 0
  ·obtain ⟨v, j, g1, g2, g3⟩ := fin a21 i h6 (by omega) hN h
   refine ⟨_, j, ?_, g2, g3⟩;apply qqb;rw [q00 (show ((0 : Nat) : Int) ≤ 0 by omega), q00 (show ((acc.length : Nat) : Int) ≤ 0 by omega), g1]
   rfl
  ·obtain ⟨u, j0, g1, g2, g3, g4⟩ := N_ok (n := 3) (by decide) (by decide) h
   by_cases hu : u = 0
   ·obtain ⟨v, j, g5, g6, g7⟩ := fin [] j0 (by simp) (by simp; omega) (by simp) g4
    refine ⟨_, j, ?_, g6, g7⟩;apply qqb;rw [q00 (show ((0 : Nat) : Int) ≤ 0 by omega), q03 (show 0 < ((acc.length : Nat) : Int) by omega), g1]
    simp only [cond_false, cond_true, Option.bind_some, hu, q0p];rw [g5]; rfl
   ·obtain ⟨v, j, g5, g6, g7⟩ := fin a21 j0 h6 (by omega) hN g4
    refine ⟨_, j, ?_, g6, g7⟩;apply qqb;rw [q00 (show ((0 : Nat) : Int) ≤ 0 by omega), q03 (show 0 < ((acc.length : Nat) : Int) by omega), g1]
    simp only [cond_false, cond_true, Option.bind_some, q0t hu];rw [g5]; rfl
 | k + 1, i, acc, ha, hs, h => by
  obtain ⟨x, j0, g1, g2, g3⟩ := IH i h;obtain ⟨t, j, g4, g5, g6⟩ := qpz hd IH a13 a15 a17 a19 a21 h5 h6 hN k j0 (acc ++ [x]) (by simp; omega) ⟨by
   rw [q60]; simp only [sizes, List.length_append, List.length_cons, List.length_nil, Nat.add_mul]; have := hs.1; have := g2.1; omega, by simp only [qiy, q4b, hs.2, g2.2, Bool.and_self]⟩ g3
  refine ⟨t, j, ?_, g5, g6⟩;apply qqb;have hdd := qqe d;rw [q03 (by omega), q22 (by omega) (by omega), q22 (by omega) (by omega)]
  rw [show ((d + 2 : Nat) : Int) - 1 = ((d + 1 : Nat) : Int) by omega, g1]
  simp only [cond_true, Option.bind_some, Trust.eta];rw [q06 (by simp [q0f]; omega)]
  rw [← g4]; congr 1; omega
theorem qyh {n : Int} (h1 : 1 ≤ n) (h2 : n ≤ 1000) {l : List Int} : ∀ (d : Nat), bound d < 1000000 → ∀ i, q0n l i → ∃ t j, z62 n (d + 1 : Nat) l i = some (t, l, j) ∧ (size t ≤ bound d ∧ below n t = true) ∧ q0n l j := by
 intro d;induction d with
 | zero =>
  intro _ i h;obtain ⟨p, j0, g1, g2, g3, g4⟩ := qpk (by omega) h2 h
  obtain ⟨b, j1, g5, g6, g7, g8⟩ := q64 (a := 1) (b := if 5 < n then 5 else n) (by split <;> omega) (by omega) (by split <;> omega) g4
  have hb5 : b ≤ 5 := by split at g7 <;> omega
  have hbn : b ≤ n := by split at g7 <;> omega
  have hxs : (List.take b.toNat p).length = b.toNat := by simp; omega
  obtain ⟨v, j, g9, g10, g11, g12⟩ := q64 (a := 1) (b := ((b.toNat : Nat) : Int)) (by omega) (by omega) (by omega) g8
  refine ⟨Trust.mk v (List.take b.toNat p) [], j, ?_, ⟨by rw [qf1, hxs]; simp [sizes, bound]; omega, q7m (fun x hx => g3 x (List.mem_of_mem_take hx)) rfl⟩, g12⟩
  apply y04;rw [g1];simp only [Option.bind_some];rw [g5];simp only [Option.bind_some];rw [q7l (by omega) (by omega)]
  simp only [List.drop_zero];refine qjo n _ _ (by omega) l j1 0 [] [] 0 [] _ 0 [] rfl (Nat.zero_le _) (Nat.zero_le _) _ ?_
  rw [List.nil_append, List.drop_zero];apply qu6;rw [q00 (Int.le_refl _), q00 (by decide)]
  simp only [cond_false];rw [hxs, show addI .i64 ((b.toNat : Nat) : Int) (([] : List Trust).length : Nat) = ((b.toNat : Nat) : Int) by rw [q1n (by simp; omega) (by simp; omega)]; simp, g9]
  rfl
 | succ d ihd =>
  intro hbd i h;have hbd' : bound d < 1000000 := by simp only [bound] at hbd; omega
  obtain ⟨p, j0, g1, g2, g3, g4⟩ := qpk (by omega) h2 h
  obtain ⟨b, j1, g5, g6, g7, g8⟩ := q64 (a := 1) (b := if 5 < n then 5 else n) (by split <;> omega) (by omega) (by split <;> omega) g4
  have hb5 : b ≤ 5 := by split at g7 <;> omega
  have hbn : b ≤ n := by split at g7 <;> omega
  have hxs : (List.take b.toNat p).length = b.toNat := by simp; omega
  obtain ⟨k, j2, g9, g10, g11⟩ := qan (ps := [0, 0, 1, 1, 2, 3]) (by decide) (by decide) g8
  have hk : 0 ≤ k ∧ k ≤ 3 := by
   simp only [List.mem_cons, List.not_mem_nil, or_false] at g10;omega
  obtain ⟨kn, rfl⟩ := Int.eq_ofNat_of_zero_le hk.1;obtain ⟨t, j, g12, g13, g14⟩ := qpz hbd' (ihd hbd') 0 [] [] 0 (List.take b.toNat p) (by omega) (by omega) (fun x hx => g3 x (List.mem_of_mem_take hx)) kn j2 [] (by simp; omega) ⟨by simp [sizes], rfl⟩ g11
  refine ⟨t, j, ?_, g13, g14⟩;apply y04;rw [g1];simp only [Option.bind_some];rw [g5];simp only [Option.bind_some];rw [q7l (by omega) (by omega)]
  simp only [List.drop_zero];refine qjo n _ _ (by omega) l j1 0 [] [] 0 [] _ 0 [] rfl (Nat.zero_le _) (Nat.zero_le _) _ ?_
  rw [List.nil_append, List.drop_zero];apply qu6;rw [q00 (Int.le_refl _), q03 (show (1 : Int) < ((d + 1 + 1 : Nat) : Int) by omega), g9]
  simp only [cond_false, cond_true, Option.bind_some];exact g12
theorem qpi (k : Int) : has 0 k = false := by simp [has]
theorem qkt {v : Int} (h : inR v = true) : valid (Trust.mk 1 [v] []) = true := by
 simp [valid, depth, q2q, size, sizes, good, goods, fresh, h, qpi]
theorem Small.of_size {t : Trust} {b : Nat} (h : size t ≤ b) (hb : b < 1000000) : Small t := by unfold Small; omega
theorem qqc {n : Int} (h1 : 1 ≤ n) (h2 : n ≤ 10) {l : List Int} {i : Int} (d : Nat) (hd : bound d < 1000000) (h : q0n l i) :
  ∃ t j, z6f n (d + 1 : Nat) l i = some (t, l, j) ∧ (valid t = true ∧ below n t = true) ∧ Small t ∧ q0n l j := by
 obtain ⟨t, j, g1, g2, g3⟩ := qyh h1 (by omega) d hd i h
 have hsm := Small.of_size g2.1 hd;obtain ⟨e, g4, g5⟩ := qyr t hsm;by_cases he : e = 0
 ·refine ⟨t, j, ?_, ⟨g5.1 he, g2.2⟩, hsm, g3⟩;apply y0y;rw [g1];simp only [Option.bind_some];rw [g4];simp only [Option.bind_some, he, q0d, cond_false, Trust.eta]
 ·obtain ⟨v, j', g6, g7, g8, g9⟩ := N_ok (n := n) (by omega) (by omega) g3
  have hv : inR v = true := by simp only [inR, Bool.and_eq_true, decide_eq_true_eq]; omega
  refine ⟨Trust.mk 1 [v] [], j', ?_, ⟨qkt hv, q7m (by simp; omega) rfl⟩, Small.of_size (b := 1) (by simp [size, sizes]) (by decide), g9⟩
  apply y0y;rw [g1];simp only [Option.bind_some];rw [g4];simp only [Option.bind_some, q0s he, cond_true];rw [g6];rfl
end Go.Proofs.YtbmelgbadedbbaaGreat
