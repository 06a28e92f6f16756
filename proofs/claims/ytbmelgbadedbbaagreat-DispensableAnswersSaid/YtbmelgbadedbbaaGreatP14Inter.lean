/- Two disjoint quorums: both texts walk the sets in order; the first quorum that leaves room for another one. -/
import Derived.Test.YtbmelgbadedbbaaGreatP14Pgreat
import Derived.Test.YtbmelgbadedbbaaGreatP14Flat
import Derived.Test.YtbmelgbadedbbaaGreatP14Delv
import Derived.Test.YtbmelgbadedbbaaGreatP14Rquor
namespace Go.Proofs.YtbmelgbadedbbaaGreat
open Go Go.Ab Go.Sort
def q1j (u : Nat) : List Nat := (List.range (pc u + 1)).flatMap fun k => pick (fun s => subB s u && (pc s == k)) (u + 1)
theorem q0x {u s : Nat} : s ∈ q1j u ↔ Sub s u := by
 simp only [q1j, List.mem_flatMap, q7v, List.mem_range, beq_iff_eq, Bool.and_eq_true, q5v];constructor
 ·rintro ⟨k, _, _, h, _⟩; exact h
 ·intro h; exact ⟨pc s, by have := qux h; omega, by have := qfm h; omega, h, rfl⟩
theorem qpm (p : Nat → Bool) (n : Nat) : (pick p n).Pairwise (· < ·) := List.Pairwise.sublist List.filter_sublist List.pairwise_lt_range
theorem q3n (u : Nat) : (q1j u).Pairwise nlt := by
 unfold q1j;rw [List.pairwise_flatMap];constructor
 ·intro k _;refine (qpm _ _).imp_of_mem ?_;intro a b ha hb hab;have h1 := (q7v.1 ha).2;have h2 := (q7v.1 hb).2;simp only [Bool.and_eq_true, beq_iff_eq] at h1 h2;exact .inr ⟨by omega, hab⟩
 ·refine List.pairwise_lt_range.imp ?_;intro a b hab x hx y hy;have h1 := (q7v.1 hx).2;have h2 := (q7v.1 hy).2;simp only [Bool.and_eq_true, beq_iff_eq] at h1 h2;exact .inl (by omega)
theorem q9o {u : Nat} (hu : u < 1024) : (q1j u).length ≤ 1024 := y39 (q3n u) fun _s hs => (q0x.1 hs).lt hu
theorem q1k {n u : Nat} : u < 2 ^ n ↔ Sub u (2 ^ n - 1) := by
 constructor
 ·intro h i hi;rw [Nat.testBit_two_pow_sub_one, decide_eq_true_eq];refine Nat.lt_of_not_le fun hle => ?_
  have := Nat.ge_two_pow_of_testBit hi;have := Nat.pow_le_pow_right (n := 2) (by decide) hle
  omega
 ·intro h;have := qfm h;have := Nat.two_pow_pos n;omega
theorem qd8 : ∀ j, j ≤ 10 → pc (2 ^ j - 1) = j := by
 have h : ∀ j, j < 11 → pc (2 ^ j - 1) = j := by decide
 exact fun j hj => h j (by omega)
theorem qou {u : Nat} (hu : u < 1024) : z5f (u : Int) = some ((q1j u).map Int.ofNat) := by
 have hlen := qer (fun s => subB s u) (u + 1)
 obtain ⟨zs, h1, h2, h3⟩ := qxi (pick (fun s => subB s u) (u + 1)) (by omega) fun s hs => by have := (q7v.1 hs).1; omega
 have hnd : zs.Nodup := h2.nodup_iff.2 ((qpm _ _).imp fun h => by omega)
 have ho : zs.Pairwise nlt := by
  refine (h3.and hnd).imp ?_;intro a b h;rcases qvn a b with h' | h' | h'
  ·exact h'
  ·exact absurd h' h.2
  ·exact absurd h' h.1
 have he : zs = q1j u := qhu ho (q3n u) fun s => by
  rw [h2.mem_iff, q7v, q5v, q0x];exact ⟨fun h => h.2, fun h => ⟨by have := qfm h; omega, h⟩⟩
 apply y5b;have := qia hu h1 (u + 1) 0 (by omega)
 rw [he] at this;simpa [pick] using this
theorem qtl {u : Nat} (hu : u < 1024) {k : Nat} (hk : k ≤ 10) {acc : List Nat} (ha : acc.length ≤ 20000) {r : List Int}
  (hr : z2u (u : Int) ((acc ++ pick (fun s => subB s u && (pc s == k)) (u + 1)).map Int.ofNat) ((k + 1 : Nat) : Int) = some r) : ∀ (j i : Nat), i + j = u + 1 →
  z2c (u : Int) ((acc ++ pick (fun s => subB s u && (pc s == k)) i).map Int.ofNat) (k : Int) (i : Int) = some r
 | 0, i, h => by
  have : i = u + 1 := by omega
  subst this;apply y0m;rw [q09 (by omega)]
  simp only [cond_false];rw [q02 (by omega)]
  exact hr
 | j + 1, i, h => by
  have ih := qtl hu hk ha hr j (i + 1) (by omega)
  have hlen := qer (fun s => subB s u && (pc s == k)) i
  have hp := pc_le i;rw [qkd] at ih;apply y0m;rw [q0e (by omega), q3u (by omega) (by omega), q02 (by omega)]
  simp only [cond_true];by_cases h1 : i &&& u = i
  ·have hs : subB i u = true := q5v.2 (qd4.2 h1);rw [h1, q0p];simp only [cond_true];rw [qim (s := i) (by omega)]
   simp only [Option.bind_some];by_cases h2 : pc i = k
   ·rw [h2, q0p];simp only [cond_true];rw [if_pos (by simp [hs, h2]), ← List.append_assoc, List.map_append (l₂ := [i])] at ih
    rw [q06 (by simp [q0f]; omega)]
    exact ih
   ·rw [q0t (by omega)]
    simp only [cond_false];rw [if_neg (by simp [h2])] at ih
    exact ih
  ·have hs : subB i u = false := by
    cases hb : subB i u with
    | false => rfl
    | true => exact absurd (qd4.1 (q5v.1 hb)) h1
   rw [q0t (by omega)]
   simp only [cond_false];rw [if_neg (by simp [hs])] at ih
   exact ih
def ordTo (u k : Nat) : List Nat := (List.range k).flatMap fun k => pick (fun s => subB s u && (pc s == k)) (u + 1)
theorem qhv (u k : Nat) : ordTo u (k + 1) = ordTo u k ++ pick (fun s => subB s u && (pc s == k)) (u + 1) := by simp [ordTo, List.range_succ]
theorem qlz (u : Nat) : ∀ k, (ordTo u k).length ≤ k * (u + 1)
 | 0 => by simp [ordTo]
 | k + 1 => by
  have := qlz u k;have := qer (fun s => subB s u && (pc s == k)) (u + 1)
  rw [qhv, List.length_append, Nat.succ_mul];omega
theorem qwt {u : Nat} (hu : u < 1024) : ∀ (j k : Nat), k + j = pc u + 1 → z2u (u : Int) ((ordTo u k).map Int.ofNat) (k : Int) = some ((q1j u).map Int.ofNat)
 | 0, k, h => by
  apply qz8;rw [qim hu];simp only [Option.bind_some];rw [q09 (by omega)]
  rw [h.symm.trans (Nat.add_zero k) |>.symm];rfl
 | j + 1, k, h => by
  have hp := pc_le u;have ih := qwt hu j (k + 1) (by omega)
  rw [qhv] at ih;have hl := qlz u k;have hk : k * (u + 1) ≤ 10 * 1024 := Nat.mul_le_mul (by omega) (by omega)
  apply qz8;rw [qim hu];simp only [Option.bind_some];rw [q0e (by omega), qew, q8j hu]
  simp only [cond_true, Option.bind_some];have := qtl hu (k := k) (by omega) (acc := ordTo u k) (by omega) ih (u + 1) 0 (by omega)
  simpa [pick] using this
theorem qg5 {u : Nat} (hu : u < 1024) : z5d (u : Int) = some ((q1j u).map Int.ofNat) := by
 apply y6v;exact qwt hu (pc u + 1) 0 (by omega)
theorem qpa {a : Nat} (h : 1 ≤ a) (ha : a < 4611686018427387904) : subI .i64 (a : Int) 1 = ((a - 1 : Nat) : Int) := qc0 (b := 1) h ha
theorem qif {n s : Nat} (h : s < 2 ^ n) : ndiff (2 ^ n - 1) s = 2 ^ n - 1 - s := by
 apply Nat.eq_of_testBit_eq;intro i;rw [show 2 ^ n - 1 - s = 2 ^ n - (s + 1) from by omega, Nat.testBit_two_pow_sub_succ h, q07, Nat.testBit_two_pow_sub_one]
theorem q9m {s n : Nat} (hn : n ≤ 10) : z2e (s : Int) (n : Int) = some (decide (s < 2 ^ n)) := by
 apply qv8;rw [q0e (by omega), q0q (by omega), shl1 (by omega) (by omega), Int.toNat_natCast]
 simp only [cond_true];by_cases h : s < 2 ^ n
 ·rw [q03 (by omega), decide_eq_true h]
 ·rw [q00 (by omega), decide_eq_false h]
theorem qre {n : Nat} (hn : n ≤ 10) {s : Nat} (hs : s < 2 ^ n) : ∀ (k t : Nat), t + k = 2 ^ n → s < t → (∀ u, s < u → u < t → pc u ≠ pc s) →
  ∃ (t' : Nat) (b : Bool), z2p (n : Int) ((pc s : Nat) : Int) (t : Int) = some ((t' : Int), b) ∧
   (b = true → t' < 2 ^ n ∧ nlt s t' ∧ ∀ u, u < 2 ^ n → nlt s u → u = t' ∨ nlt t' u) ∧ (b = false → ∀ u, u < 2 ^ n → ¬ nlt s u)
 | 0, t, h, ht, hno => by
  have hp := pow10 hn;have hle : ∀ {j u : Nat}, j ≤ 10 → u < 2 ^ j → pc u ≤ j := fun hj hu => by
   have := qux (q1k.1 hu)
   rwa [qd8 _ hj] at this
  have hps := hle hn hs;by_cases he : pc s = n
  ·refine ⟨0, false, ?_, by simp, fun _ u hu hlt => ?_⟩
   ·apply qp6;rw [q9m hn, decide_eq_false (by omega), he, q0p]
    rfl
   ·have := hle hn hu;rcases hlt with h1 | ⟨h1, h2⟩
    ·omega
    ·exact hno u h2 (by omega) h1.symm
  ·refine ⟨2 ^ (pc s + 1) - 1, true, ?_, fun _ => ⟨?_, ?_, fun u hu hlt => ?_⟩, by simp⟩
   ·have hp1 := Nat.two_pow_pos (pc s + 1);have hp2 : 2 ^ (pc s + 1) ≤ 1024 := pow10 (by omega)
    apply qp6;rw [q9m hn, decide_eq_false (by omega), q0t (by omega)]
    simp only [Option.bind_some, cond_false];rw [q02 (by omega), q0q (by omega), shl1 (by omega) (by omega), Int.toNat_natCast, qpa (by omega) (by omega)]
   ·have : 2 ^ (pc s + 1) ≤ 2 ^ n := Nat.pow_le_pow_right (by decide) (by omega)
    have := Nat.two_pow_pos (pc s + 1);omega
   ·exact .inl (by rw [qd8 _ (by omega)]; omega)
   ·have h1 : pc s < pc u := by
     rcases hlt with h1 | ⟨h1, h2⟩
     ·exact h1
     ·exact absurd h1.symm (hno u h2 (by omega))
    by_cases h2 : pc u = pc s + 1
    ·have hge : 2 ^ (pc s + 1) - 1 ≤ u := by
      refine Nat.le_of_not_lt fun hlt' => ?_
      have hsub : Sub u (2 ^ (pc s + 1) - 1) := q1k.1 (by omega)
      have hp2 : 2 ^ (pc s + 1) ≤ 1024 := pow10 (by omega)
      have := qlx (by omega) (by omega) hsub (by rw [qd8 _ (by omega)]; exact h2)
      omega
     rcases Nat.eq_or_lt_of_le hge with e | hlt'
     ·exact .inl e.symm
     ·exact .inr (.inr ⟨by rw [qd8 _ (by omega)]; exact h2.symm, hlt'⟩)
    ·exact .inr (.inl (by rw [qd8 _ (by omega)]; omega))
 | k + 1, t, h, ht, hno => by
  have hp := pow10 hn;by_cases he : pc t = pc s
  ·refine ⟨t, true, ?_, fun _ => ⟨by omega, .inr ⟨he.symm, ht⟩, fun u hu hlt => ?_⟩, by simp⟩
   ·apply qp6;rw [q9m hn, decide_eq_true (by omega), qen (by omega)]
    simp only [Option.bind_some, cond_true];rw [he, q0p];rfl
   ·rcases hlt with h1 | ⟨h1, h2⟩
    ·exact .inr (.inl (by omega))
    ·rcases Nat.lt_trichotomy u t with h3 | h3 | h3
     ·exact absurd h1.symm (hno u h2 h3)
     ·exact .inl h3
     ·exact .inr (.inr ⟨by omega, h3⟩)
  ·obtain ⟨t', b, g1, g2, g3⟩ := qre hn hs k (t + 1) (by omega) (by omega) fun u h1 h2 => by
    by_cases e : u = t
    ·rw [e]; exact he
    ·exact hno u h1 (by omega)
   refine ⟨t', b, ?_, g2, g3⟩;apply qp6;rw [q9m hn, decide_eq_true (by omega), qen (by omega)]
   simp only [Option.bind_some, cond_true];rw [q0t (by omega), q02 (by omega)]
   exact g1
theorem qek {n : Nat} (hn : n ≤ 10) {s : Nat} (hs : s < 2 ^ n) : ∃ (t' : Nat) (b : Bool), z58 (s : Int) (n : Int) = some ((t' : Int), b) ∧
   (b = true → t' < 2 ^ n ∧ nlt s t' ∧ ∀ u, u < 2 ^ n → nlt s u → u = t' ∨ nlt t' u) ∧ (b = false → ∀ u, u < 2 ^ n → ¬ nlt s u) := by
 have hp := pow10 hn;obtain ⟨t', b, g1, g2, g3⟩ := qre hn hs (2 ^ n - (s + 1)) (s + 1) (by omega) (by omega) fun u h1 h2 => by omega
 refine ⟨t', b, ?_, g2, g3⟩;apply y7h;rw [q00 (by omega), q00 (by omega), q9m hn, decide_eq_true hs]
 simp only [cond_false, Option.bind_some, Bool.not_true];rw [qen (by omega)]
 simp only [Option.bind_some];rw [q02 (by omega)]
 exact g1
def aptB (c : Config) (s : Nat) : Bool := quoB c s && (q21 c (ndiff (2 ^ c.Members.length - 1) s) != 0)
def aptR (c : Config) : Option Nat → Nat × Nat
 | some s => (s, q21 c (ndiff (2 ^ c.Members.length - 1) s))
 | none => (0, 0)
def apart (c : Config) : Nat × Nat := aptR c ((q1j (2 ^ c.Members.length - 1)).find? (aptB c))
def pairI (p : Nat × Nat) : Int × Int := (p.1, p.2)
theorem q3k {n : Nat} (hn : n ≤ 10) : subI .i64 (shlI .i64 1 ((n : Nat) : Int)) 1 = ((2 ^ n - 1 : Nat) : Int) := by
 have hp := pow10 hn;have hp1 := Nat.two_pow_pos n;rw [shl1 (by omega) (by omega), Int.toNat_natCast, qpa (by omega) (by omega)]
theorem y2t {c : Config} (hc : q0l c) (hn : c.Members.length ≤ 10) : ∀ (suf pre : List Nat) (s : Nat), q1j (2 ^ c.Members.length - 1) = pre ++ s :: suf →
  z1d ((c.Members.length : Nat) : Int) (s : Int) true c.Members = some (pairI (aptR c ((s :: suf).find? (aptB c)))) := by
 have hp := pow10 hn;have hp1 := Nat.two_pow_pos c.Members.length;intro suf;induction suf with
 | nil =>
  intro pre s e;have hord := q3n (2 ^ c.Members.length - 1);have hs : s < 2 ^ c.Members.length := q1k.2 (q0x.1 (by rw [e]; simp))
  obtain ⟨t', b, g1, g2, g3⟩ := qek hn hs;have hb : b = false := by
   cases b with
   | false => rfl
   | true =>
    obtain ⟨h1, h2, _⟩ := g2 rfl;have hm : t' ∈ q1j (2 ^ c.Members.length - 1) := q0x.2 (q1k.1 h1);rw [e] at hm hord;rw [List.pairwise_append] at hord;rcases List.mem_append.1 hm with h | h
    ·exact absurd (q5l h2 (hord.2.2 t' h s (by simp))) (q18 _)
    ·simp at h; subst h; exact absurd h2 (q18 _)
  subst hb;have hnext : z1d ((c.Members.length : Nat) : Int) (t' : Int) false c.Members = some (0, 0) := by
   apply qvu; rfl
  have hlt : ndiff (2 ^ c.Members.length - 1) s < 1024 := q6y (by omega)
  apply qvu;rw [show Config.mk c.Members = c from rfl, qa6 (by omega) hc]
  simp only [cond_true, Option.bind_some];cases hq : quoB c s with
  | false =>
   simp only [Bool.not_false, cond_true];rw [g1];simp only [Option.bind_some];rw [hnext];simp [aptB, hq, aptR, pairI]
  | true =>
   have hm : z29 c = some ((2 ^ c.Members.length - 1 : Nat) : Int) := by
    apply y0f;rw [q0q (by omega), q3k hn]
   simp only [Bool.not_true, cond_false];rw [hm];simp only [Option.bind_some];rw [q2y (by omega) (by omega), qdf hlt hc]
   simp only [Option.bind_some, qn9];cases hg : (q21 c (ndiff (2 ^ c.Members.length - 1) s) != 0) with
   | false =>
    simp only [cond_false];rw [g1];simp only [Option.bind_some];rw [hnext];have : aptB c s = false := by simp only [aptB, hq, hg]; rfl
    simp [this, aptR, pairI]
   | true =>
    simp only [cond_true];have : aptB c s = true := by simp only [aptB, hq, hg]; rfl
    simp [this, aptR, pairI]
 | cons v suf ih =>
  intro pre s e;have hord := q3n (2 ^ c.Members.length - 1);have hs : s < 2 ^ c.Members.length := q1k.2 (q0x.1 (by rw [e]; simp))
  have hv : v < 2 ^ c.Members.length := q1k.2 (q0x.1 (by rw [e]; simp))
  obtain ⟨t', b, g1, g2, g3⟩ := qek hn hs;rw [e, List.pairwise_append, List.pairwise_cons, List.pairwise_cons] at hord;have hsv := hord.2.1.1 v (by simp)
  have hb : b = true := by
   cases b with
   | true => rfl
   | false => exact absurd hsv (g3 rfl v hv)
  subst hb;obtain ⟨h1, h2, h3⟩ := g2 rfl;have ht : t' = v := by
   rcases h3 v hv hsv with h | h
   ·exact h.symm
   ·have hm : t' ∈ q1j (2 ^ c.Members.length - 1) := q0x.2 (q1k.1 h1);rw [e] at hm;rcases List.mem_append.1 hm with h' | h'
    ·exact absurd (q5l h2 (hord.2.2 t' h' s (by simp))) (q18 _)
    ·rcases List.mem_cons.1 h' with h'' | h''
     ·subst h''; exact absurd h2 (q18 _)
     ·rcases List.mem_cons.1 h'' with h4 | h4
      ·exact h4
      ·exact absurd (q5l h (hord.2.1.2.1 t' h4)) (q18 _)
  subst ht;have hnext := ih (pre ++ [s]) t' (by rw [e]; simp)
  have hlt : ndiff (2 ^ c.Members.length - 1) s < 1024 := q6y (by omega)
  apply qvu;rw [show Config.mk c.Members = c from rfl, qa6 (by omega) hc]
  simp only [cond_true, Option.bind_some];cases hq : quoB c s with
  | false =>
   simp only [Bool.not_false, cond_true];rw [g1];simp only [Option.bind_some];rw [hnext, List.find?_cons (a := s)];simp [aptB, hq]
  | true =>
   have hm : z29 c = some ((2 ^ c.Members.length - 1 : Nat) : Int) := by
    apply y0f;rw [q0q (by omega), q3k hn]
   simp only [Bool.not_true, cond_false];rw [hm];simp only [Option.bind_some];rw [q2y (by omega) (by omega), qdf hlt hc]
   simp only [Option.bind_some, qn9];cases hg : (q21 c (ndiff (2 ^ c.Members.length - 1) s) != 0) with
   | false =>
    simp only [cond_false];rw [g1];simp only [Option.bind_some];have : aptB c s = false := by simp only [aptB, hq, hg]; rfl
    rw [hnext, List.find?_cons (a := s), this]
   | true =>
    simp only [cond_true];have : aptB c s = true := by simp only [aptB, hq, hg]; rfl
    rw [List.find?_cons (a := s), this]; rfl
theorem qet (u : Nat) : ∃ suf, q1j u = 0 :: suf := by
 have h0 : (0 : Nat) ∈ q1j u := q0x.2 fun i hi => by simp at hi
 cases h : q1j u with
 | nil => rw [h] at h0; cases h0
 | cons a suf =>
  have ho := q3n u;rw [h] at h0 ho;rcases List.mem_cons.1 h0 with e | hm
  ·exact ⟨suf, by rw [e]⟩
  ·have := (List.pairwise_cons.1 ho).1 0 hm;have h1 : pc 0 = 0 := by decide
   rcases this with h2 | ⟨_, h2⟩ <;> omega
theorem qp4 {c : Config} (hc : q0l c) (hn : c.Members.length ≤ 10) : z45 c = some (pairI (apart c)) := by
 obtain ⟨suf, h⟩ := qet (2 ^ c.Members.length - 1);apply y84;have := y2t hc hn suf [] 0 h;rw [← h] at this;exact this
theorem qki {c : Config} (hc : q0l c) (hn : c.Members.length ≤ 10) {l : List Nat} (hl : l.length ≤ 1024) (hm : ∀ s ∈ l, s < 2 ^ c.Members.length) : ∀ (suf : List Nat) (i : Nat), l.drop i = suf →
  z3k (l.map Int.ofNat) ((l.length : Nat) : Int) (i : Int) c.Members = some (pairI (aptR c (suf.find? (aptB c))))
 | [], i, h => by
  apply qzh;rw [q0j h]; rfl
 | s :: suf, i, h => by
  have hp := pow10 hn;have hp1 := Nat.two_pow_pos c.Members.length;have hlt := q0i h;have hs := hm s (List.mem_of_mem_drop (by rw [h]; exact List.mem_cons_self))
  have ih := qki hc hn hl hm suf (i + 1) (q04 h);have hd : ndiff (2 ^ c.Members.length - 1) s = 2 ^ c.Members.length - 1 - s := by
   exact qif hs
  have hlt' : ndiff (2 ^ c.Members.length - 1) s < 1024 := q6y (by omega)
  apply qzh;rw [q0a h];simp only [cond_true, q08 (q2j h)];rw [show Config.mk c.Members = c from rfl, qcs (by omega) hc, q02 (by omega), ih]
  simp only [Option.bind_some];rw [List.find?_cons];cases hq : quoB c s with
  | false => simp [aptB, hq]
  | true =>
   have hmm : z47 c = some ((2 ^ c.Members.length - 1 : Nat) : Int) := by
    apply qz7;rw [q0q (by omega), q3k hn]
   simp only [Bool.not_true, cond_false];rw [hmm];simp only [Option.bind_some];rw [qc0 (by omega) (by omega), ← hd, qoa hlt' hc]
   simp only [Option.bind_some, qn9];cases hg : (q21 c (ndiff (2 ^ c.Members.length - 1) s) != 0) with
   | false =>
    have : aptB c s = false := by simp only [aptB, hq, hg]; rfl
    rw [this]; rfl
   | true =>
    have : aptB c s = true := by simp only [aptB, hq, hg]; rfl
    rw [this]; rfl
theorem qlh {c : Config} (hc : q0l c) (hn : c.Members.length ≤ 10) : z5y c = some (pairI (apart c)) := by
 have hp := pow10 hn;have hp1 := Nat.two_pow_pos c.Members.length;apply y4t;have hmm : z47 c = some ((2 ^ c.Members.length - 1 : Nat) : Int) := by
  apply qz7;rw [q0q (by omega), q3k hn]
 rw [hmm];simp only [Option.bind_some];rw [qg5 (by omega)]
 simp only [Option.bind_some, List.length_map];exact qki hc hn (q9o (by omega)) (fun s hs => q1k.2 (q0x.1 hs)) _ 0 rfl
theorem apart_spec {c : Config} (hn : c.Members.length ≤ 10) : ((apart c).1 = 0 ∧ (apart c).2 = 0 ∧ ∀ a b, q23 c a → q23 c b → a &&& b = 0 → False) ∨
  (q23 c (apart c).1 ∧ q23 c (apart c).2 ∧ (apart c).1 &&& (apart c).2 = 0 ∧ (apart c).1 ≠ 0) := by
 have hp := pow10 hn;have hp1 := Nat.two_pow_pos c.Members.length;unfold apart;cases h : (q1j (2 ^ c.Members.length - 1)).find? (aptB c) with
 | none =>
  refine .inl ⟨rfl, rfl, fun a b ha hb hab => ?_⟩
  have hla : a < 2 ^ c.Members.length := Nat.lt_of_le_of_lt (qfm ha.2.1) (q8l hn);have hlb : b < 2 ^ c.Members.length := Nat.lt_of_le_of_lt (qfm hb.2.1) (q8l hn);have hno := List.find?_eq_none.1 h a (q0x.2 (q1k.1 hla));apply hno;have hqa := (qbn (by omega)).2 ha
  have hlt : ndiff (2 ^ c.Members.length - 1) a < 1024 := q6y (by omega)
  have hsub : Sub b (ndiff (2 ^ c.Members.length - 1) a) := fun i hi => by
   rw [q07, q1k.1 hlb i hi];cases hai : a.testBit i with
   | false => rfl
   | true =>
    have : (a &&& b).testBit i = true := by rw [Nat.testBit_and, hai, hi]; rfl
    rw [hab] at this; simp at this
  have hg := qn5 c hlt hb hsub;have : q21 c (ndiff (2 ^ c.Members.length - 1) a) ≠ 0 := fun h0 => by
   rw [h0] at hg;have := qfm hg;exact hb.1 (by omega)
  simp [aptB, hqa, this]
 | some s =>
  have h1 := List.find?_some h;have h2 := q1k.2 (q0x.1 (List.mem_of_find?_eq_some h));simp only [aptB, Bool.and_eq_true, bne_iff_ne] at h1;have hlt : ndiff (2 ^ c.Members.length - 1) s < 1024 := q6y (by omega)
  have hQ := (qbn (by omega)).1 h1.1
  refine .inr ⟨hQ, qfs c hlt h1.2, ?_, hQ.1⟩;apply Nat.eq_of_testBit_eq;intro i;show (s &&& q21 c (ndiff (2 ^ c.Members.length - 1) s)).testBit i = _;rw [Nat.testBit_and, Nat.zero_testBit];cases hsi : s.testBit i with
  | false => rfl
  | true =>
   cases hgi : (q21 c (ndiff (2 ^ c.Members.length - 1) s)).testBit i with
   | false => rfl
   | true =>
    have := (q8w c hlt).trans (Sub.and_left _ _) i hgi;rw [q07, hsi] at this;simp at this
def twoB (c : Config) : Bool := (apart c).1 != 0
theorem qx8 {c : Config} (hn : c.Members.length ≤ 10) : twoB c = true ↔ ∃ a b, q23 c a ∧ q23 c b ∧ a &&& b = 0 := by
 simp only [twoB, bne_iff_ne];rcases apart_spec hn with ⟨h1, _, h2⟩ | ⟨h1, h2, h3, h4⟩
 ·exact ⟨fun h => absurd h1 h, fun ⟨a, b, ha, hb, hab⟩ => absurd (h2 a b ha hb hab) id⟩
 ·exact ⟨fun _ => ⟨_, _, h1, h2, h3⟩, fun _ => h4⟩
theorem qw6 {c : Config} (hc : q0l c) (he : cerr c = 0) : z4n c = some (!twoB c, 0) := by
 apply y3t;rw [qbf hc, he];simp only [Option.bind_some, q0d, cond_false];rw [qp4 hc (q1g.1 he).1];simp only [Option.bind_some, pairI, q5n, twoB];congr 2
 cases h : ((apart c).1 == 0) <;> simp_all
theorem qwb {c : Config} (hc : q0l c) (he : cerr c = 0) : z6c c = some (!twoB c, 0) := by
 apply y4j;rw [q7a hc, he];simp only [Option.bind_some, q0d, cond_false];rw [qlh hc (q1g.1 he).1];simp only [Option.bind_some, pairI, q5n, twoB];congr 2
 cases h : ((apart c).1 == 0) <;> simp_all
def disjR (c : Config) : Int × Int × Int := if twoB c then (((apart c).1 : Int), ((apart c).2 : Int), 0) else (0, 0, 11)
theorem ql0 {c : Config} (hc : q0l c) (he : cerr c = 0) : z3h c = some (disjR c) := by
 apply y6c;rw [qbf hc, he];simp only [Option.bind_some, q0d, cond_false];rw [qp4 hc (q1g.1 he).1];simp only [Option.bind_some, pairI, q5n, twoB, disjR];by_cases h : (apart c).1 = 0
 ·simp [h]
 ·rw [show ((apart c).1 == 0) = false by simp [h]]
  simp [h]
theorem qm9 {c : Config} (hc : q0l c) (he : cerr c = 0) : z5r c = some (disjR c) := by
 apply y89;rw [q7a hc, he];simp only [Option.bind_some, q0d, cond_false];rw [qlh hc (q1g.1 he).1];simp only [Option.bind_some, pairI, q5n, twoB, disjR];by_cases h : (apart c).1 = 0
 ·simp [h]
 ·rw [show ((apart c).1 == 0) = false by simp [h]]
  simp [h]
end Go.Proofs.YtbmelgbadedbbaaGreat
