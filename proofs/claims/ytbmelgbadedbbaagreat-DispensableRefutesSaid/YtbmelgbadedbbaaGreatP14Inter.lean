/- Two disjoint quorums: both texts walk the sets in order; the first quorum that leaves room for another one. -/
import Derived.Test.YtbmelgbadedbbaaGreatP14Pgreat
import Derived.Test.YtbmelgbadedbbaaGreatP14Flat
import Derived.Test.YtbmelgbadedbbaaGreatP14Delv
import Derived.Test.YtbmelgbadedbbaaGreatP14Rquor
namespace Go.Proofs.YtbmelgbadedbbaaGreat
open Go Go.Ab Go.Sort
def q1g (u : Nat) : List Nat := (List.range (pc u + 1)).flatMap fun k => pick (fun s => subB s u && (pc s == k)) (u + 1)
theorem q0u {u s : Nat} : s ∈ q1g u ↔ Sub s u := by
 simp only [q1g, List.mem_flatMap, q7h, List.mem_range, beq_iff_eq, Bool.and_eq_true, q61];constructor
 ·rintro ⟨k, _, _, h, _⟩; exact h
 ·intro h; exact ⟨pc s, by have := qul h; omega, by have := qew h; omega, h, rfl⟩
theorem qra (p : Nat → Bool) (n : Nat) : (pick p n).Pairwise (· < ·) := List.Pairwise.sublist List.filter_sublist List.pairwise_lt_range
theorem q3q (u : Nat) : (q1g u).Pairwise nlt := by
 unfold q1g;rw [List.pairwise_flatMap];constructor
 ·intro k _;refine (qra _ _).imp_of_mem ?_;intro a b ha hb hab;have h1 := (q7h.1 ha).2;have h2 := (q7h.1 hb).2;simp only [Bool.and_eq_true, beq_iff_eq] at h1 h2;exact .inr ⟨by omega, hab⟩
 ·refine List.pairwise_lt_range.imp ?_;intro a b hab x hx y hy;have h1 := (q7h.1 hx).2;have h2 := (q7h.1 hy).2;simp only [Bool.and_eq_true, beq_iff_eq] at h1 h2;exact .inl (by omega)
theorem qcs {u : Nat} (hu : u < 1024) : (q1g u).length ≤ 1024 := y22 (q3q u) fun _s hs => (q0u.1 hs).lt hu
theorem q1i {n u : Nat} : u < 2 ^ n ↔ Sub u (2 ^ n - 1) := by
 constructor
 ·intro h i hi;rw [Nat.testBit_two_pow_sub_one, decide_eq_true_eq];refine Nat.lt_of_not_le fun hle => ?_
  have := Nat.ge_two_pow_of_testBit hi;have := Nat.pow_le_pow_right (n := 2) (by decide) hle
  omega
 ·intro h;have := qew h;have := Nat.two_pow_pos n;omega
theorem qd1 : ∀ j, j ≤ 10 → pc (2 ^ j - 1) = j := by
 have h : ∀ j, j < 11 → pc (2 ^ j - 1) = j := by decide
 exact fun j hj => h j (by omega)
theorem qo7 {u : Nat} (hu : u < 1024) : z53 (u : Int) = some ((q1g u).map Int.ofNat) := by
 have hlen := qej (fun s => subB s u) (u + 1)
 obtain ⟨zs, h1, h2, h3⟩ := qy2 (pick (fun s => subB s u) (u + 1)) (by omega) fun s hs => by have := (q7h.1 hs).1; omega
 have hnd : zs.Nodup := h2.nodup_iff.2 ((qra _ _).imp fun h => by omega)
 have ho : zs.Pairwise nlt := by
  refine (h3.and hnd).imp ?_;intro a b h;rcases qud a b with h' | h' | h'
  ·exact h'
  ·exact absurd h' h.2
  ·exact absurd h' h.1
 have he : zs = q1g u := qhm ho (q3q u) fun s => by
  rw [h2.mem_iff, q7h, q61, q0u];exact ⟨fun h => h.2, fun h => ⟨by have := qew h; omega, h⟩⟩
 apply y3c;have := qi8 hu h1 (u + 1) 0 (by omega)
 rw [he] at this;simpa [pick] using this
theorem qvr {u : Nat} (hu : u < 1024) {k : Nat} (hk : k ≤ 10) {acc : List Nat} (ha : acc.length ≤ 20000) {r : List Int}
  (hr : z2t (u : Int) ((acc ++ pick (fun s => subB s u && (pc s == k)) (u + 1)).map Int.ofNat) ((k + 1 : Nat) : Int) = some r) : ∀ (j i : Nat), i + j = u + 1 →
  z2f (u : Int) ((acc ++ pick (fun s => subB s u && (pc s == k)) i).map Int.ofNat) (k : Int) (i : Int) = some r
 | 0, i, h => by
  have : i = u + 1 := by omega
  subst this;apply qzk;rw [q0a (by omega)]
  simp only [cond_false];rw [q02 (by omega)]
  exact hr
 | j + 1, i, h => by
  have ih := qvr hu hk ha hr j (i + 1) (by omega)
  have hlen := qej (fun s => subB s u && (pc s == k)) i
  have hp := pc_le i;rw [qmr] at ih;apply qzk;rw [q0d (by omega), q2o (by omega) (by omega), q02 (by omega)]
  simp only [cond_true];by_cases h1 : i &&& u = i
  ·have hs : subB i u = true := q61.2 (qce.2 h1);rw [h1, q0y];simp only [cond_true];rw [qjw (s := i) (by omega)]
   simp only [Option.bind_some];by_cases h2 : pc i = k
   ·rw [h2, q0y];simp only [cond_true];rw [if_pos (by simp [hs, h2]), ← List.append_assoc, List.map_append (l₂ := [i])] at ih
    rw [q0e (by simp [q0i]; omega)]
    exact ih
   ·rw [q19 (by omega)]
    simp only [cond_false];rw [if_neg (by simp [h2])] at ih
    exact ih
  ·have hs : subB i u = false := by
    cases hb : subB i u with
    | false => rfl
    | true => exact absurd (qce.1 (q61.1 hb)) h1
   rw [q19 (by omega)]
   simp only [cond_false];rw [if_neg (by simp [hs])] at ih
   exact ih
def ordTo (u k : Nat) : List Nat := (List.range k).flatMap fun k => pick (fun s => subB s u && (pc s == k)) (u + 1)
theorem qhg (u k : Nat) : ordTo u (k + 1) = ordTo u k ++ pick (fun s => subB s u && (pc s == k)) (u + 1) := by simp [ordTo, List.range_succ]
theorem qml (u : Nat) : ∀ k, (ordTo u k).length ≤ k * (u + 1)
 | 0 => by simp [ordTo]
 | k + 1 => by
  have := qml u k;have := qej (fun s => subB s u && (pc s == k)) (u + 1)
  rw [qhg, List.length_append, Nat.succ_mul];omega
theorem qwh {u : Nat} (hu : u < 1024) : ∀ (j k : Nat), k + j = pc u + 1 → z2t (u : Int) ((ordTo u k).map Int.ofNat) (k : Int) = some ((q1g u).map Int.ofNat)
 | 0, k, h => by
  apply y0x;rw [qjw hu];simp only [Option.bind_some];rw [q0a (by omega)]
  rw [h.symm.trans (Nat.add_zero k) |>.symm];rfl
 | j + 1, k, h => by
  have hp := pc_le u;have ih := qwh hu j (k + 1) (by omega)
  rw [qhg] at ih;have hl := qml u k;have hk : k * (u + 1) ≤ 10 * 1024 := Nat.mul_le_mul (by omega) (by omega)
  apply y0x;rw [qjw hu];simp only [Option.bind_some];rw [q0d (by omega), qeq, q7q hu]
  simp only [cond_true, Option.bind_some];have := qvr hu (k := k) (by omega) (acc := ordTo u k) (by omega) ih (u + 1) 0 (by omega)
  simpa [pick] using this
theorem qnl {u : Nat} (hu : u < 1024) : z5j (u : Int) = some ((q1g u).map Int.ofNat) := by
 apply y4j;exact qwh hu (pc u + 1) 0 (by omega)
theorem qr9 {a : Nat} (h : 1 ≤ a) (ha : a < 4611686018427387904) : subI .i64 (a : Int) 1 = ((a - 1 : Nat) : Int) := qbj (b := 1) h ha
theorem qhi {n s : Nat} (h : s < 2 ^ n) : ndiff (2 ^ n - 1) s = 2 ^ n - 1 - s := by
 apply Nat.eq_of_testBit_eq;intro i;rw [show 2 ^ n - 1 - s = 2 ^ n - (s + 1) from by omega, Nat.testBit_two_pow_sub_succ h, q06, Nat.testBit_two_pow_sub_one]
theorem q8m {s n : Nat} (hn : n ≤ 10) : z2h (s : Int) (n : Int) = some (decide (s < 2 ^ n)) := by
 apply qws;rw [q0d (by omega), q0n (by omega), shl1 (by omega) (by omega), Int.toNat_natCast]
 simp only [cond_true];by_cases h : s < 2 ^ n
 ·rw [q03 (by omega), decide_eq_true h]
 ·rw [q00 (by omega), decide_eq_false h]
theorem qrk {n : Nat} (hn : n ≤ 10) {s : Nat} (hs : s < 2 ^ n) : ∀ (k t : Nat), t + k = 2 ^ n → s < t → (∀ u, s < u → u < t → pc u ≠ pc s) →
  ∃ (t' : Nat) (b : Bool), z2p (n : Int) ((pc s : Nat) : Int) (t : Int) = some ((t' : Int), b) ∧
   (b = true → t' < 2 ^ n ∧ nlt s t' ∧ ∀ u, u < 2 ^ n → nlt s u → u = t' ∨ nlt t' u) ∧ (b = false → ∀ u, u < 2 ^ n → ¬ nlt s u)
 | 0, t, h, ht, hno => by
  have hp := pow10 hn;have hle : ∀ {j u : Nat}, j ≤ 10 → u < 2 ^ j → pc u ≤ j := fun hj hu => by
   have := qul (q1i.1 hu)
   rwa [qd1 _ hj] at this
  have hps := hle hn hs;by_cases he : pc s = n
  ·refine ⟨0, false, ?_, by simp, fun _ u hu hlt => ?_⟩
   ·apply qqy;rw [q8m hn, decide_eq_false (by omega), he, q0y]
    rfl
   ·have := hle hn hu;rcases hlt with h1 | ⟨h1, h2⟩
    ·omega
    ·exact hno u h2 (by omega) h1.symm
  ·refine ⟨2 ^ (pc s + 1) - 1, true, ?_, fun _ => ⟨?_, ?_, fun u hu hlt => ?_⟩, by simp⟩
   ·have hp1 := Nat.two_pow_pos (pc s + 1);have hp2 : 2 ^ (pc s + 1) ≤ 1024 := pow10 (by omega)
    apply qqy;rw [q8m hn, decide_eq_false (by omega), q19 (by omega)]
    simp only [Option.bind_some, cond_false];rw [q02 (by omega), q0n (by omega), shl1 (by omega) (by omega), Int.toNat_natCast, qr9 (by omega) (by omega)]
   ·have : 2 ^ (pc s + 1) ≤ 2 ^ n := Nat.pow_le_pow_right (by decide) (by omega)
    have := Nat.two_pow_pos (pc s + 1);omega
   ·exact .inl (by rw [qd1 _ (by omega)]; omega)
   ·have h1 : pc s < pc u := by
     rcases hlt with h1 | ⟨h1, h2⟩
     ·exact h1
     ·exact absurd h1.symm (hno u h2 (by omega))
    by_cases h2 : pc u = pc s + 1
    ·have hge : 2 ^ (pc s + 1) - 1 ≤ u := by
      refine Nat.le_of_not_lt fun hlt' => ?_
      have hsub : Sub u (2 ^ (pc s + 1) - 1) := q1i.1 (by omega)
      have hp2 : 2 ^ (pc s + 1) ≤ 1024 := pow10 (by omega)
      have := qm0 (by omega) (by omega) hsub (by rw [qd1 _ (by omega)]; exact h2)
      omega
     rcases Nat.eq_or_lt_of_le hge with e | hlt'
     ·exact .inl e.symm
     ·exact .inr (.inr ⟨by rw [qd1 _ (by omega)]; exact h2.symm, hlt'⟩)
    ·exact .inr (.inl (by rw [qd1 _ (by omega)]; omega))
 | k + 1, t, h, ht, hno => by
  have hp := pow10 hn;by_cases he : pc t = pc s
  ·refine ⟨t, true, ?_, fun _ => ⟨by omega, .inr ⟨he.symm, ht⟩, fun u hu hlt => ?_⟩, by simp⟩
   ·apply qqy;rw [q8m hn, decide_eq_true (by omega), qee (by omega)]
    simp only [Option.bind_some, cond_true];rw [he, q0y];rfl
   ·rcases hlt with h1 | ⟨h1, h2⟩
    ·exact .inr (.inl (by omega))
    ·rcases Nat.lt_trichotomy u t with h3 | h3 | h3
     ·exact absurd h1.symm (hno u h2 h3)
     ·exact .inl h3
     ·exact .inr (.inr ⟨by omega, h3⟩)
  ·obtain ⟨t', b, g1, g2, g3⟩ := qrk hn hs k (t + 1) (by omega) (by omega) fun u h1 h2 => by
    by_cases e : u = t
    ·rw [e]; exact he
    ·exact hno u h1 (by omega)
   refine ⟨t', b, ?_, g2, g3⟩;apply qqy;rw [q8m hn, decide_eq_true (by omega), qee (by omega)]
   simp only [Option.bind_some, cond_true];rw [q19 (by omega), q02 (by omega)]
   exact g1
theorem qef {n : Nat} (hn : n ≤ 10) {s : Nat} (hs : s < 2 ^ n) : ∃ (t' : Nat) (b : Bool), z4x (s : Int) (n : Int) = some ((t' : Int), b) ∧
   (b = true → t' < 2 ^ n ∧ nlt s t' ∧ ∀ u, u < 2 ^ n → nlt s u → u = t' ∨ nlt t' u) ∧ (b = false → ∀ u, u < 2 ^ n → ¬ nlt s u) := by
 have hp := pow10 hn;obtain ⟨t', b, g1, g2, g3⟩ := qrk hn hs (2 ^ n - (s + 1)) (s + 1) (by omega) (by omega) fun u h1 h2 => by omega
 refine ⟨t', b, ?_, g2, g3⟩;apply y41;rw [q00 (by omega), q00 (by omega), q8m hn, decide_eq_true hs]
 simp only [cond_false, Option.bind_some, Bool.not_true];rw [qee (by omega)]
 simp only [Option.bind_some];rw [q02 (by omega)]
 exact g1
def aptB (c : Config) (s : Nat) : Bool := quoB c s && (q1y c (ndiff (2 ^ c.Members.length - 1) s) != 0)
def aptR (c : Config) : Option Nat → Nat × Nat
 | some s => (s, q1y c (ndiff (2 ^ c.Members.length - 1) s))
 | none => (0, 0)
def apart (c : Config) : Nat × Nat := aptR c ((q1g (2 ^ c.Members.length - 1)).find? (aptB c))
def pairI (p : Nat × Nat) : Int × Int := (p.1, p.2)
theorem q2g {n : Nat} (hn : n ≤ 10) : subI .i64 (shlI .i64 1 ((n : Nat) : Int)) 1 = ((2 ^ n - 1 : Nat) : Int) := by
 have hp := pow10 hn;have hp1 := Nat.two_pow_pos n;rw [shl1 (by omega) (by omega), Int.toNat_natCast, qr9 (by omega) (by omega)]
theorem y2e {c : Config} (hc : q0s c) (hn : c.Members.length ≤ 10) : ∀ (suf pre : List Nat) (s : Nat), q1g (2 ^ c.Members.length - 1) = pre ++ s :: suf →
  z1d ((c.Members.length : Nat) : Int) (s : Int) true c.Members = some (pairI (aptR c ((s :: suf).find? (aptB c)))) := by
 have hp := pow10 hn;have hp1 := Nat.two_pow_pos c.Members.length;intro suf;induction suf with
 | nil =>
  intro pre s e;have hord := q3q (2 ^ c.Members.length - 1);have hs : s < 2 ^ c.Members.length := q1i.2 (q0u.1 (by rw [e]; simp))
  obtain ⟨t', b, g1, g2, g3⟩ := qef hn hs;have hb : b = false := by
   cases b with
   | false => rfl
   | true =>
    obtain ⟨h1, h2, _⟩ := g2 rfl;have hm : t' ∈ q1g (2 ^ c.Members.length - 1) := q0u.2 (q1i.1 h1);rw [e] at hm hord;rw [List.pairwise_append] at hord;rcases List.mem_append.1 hm with h | h
    ·exact absurd (q5q h2 (hord.2.2 t' h s (by simp))) (q17 _)
    ·simp at h; subst h; exact absurd h2 (q17 _)
  subst hb;have hnext : z1d ((c.Members.length : Nat) : Int) (t' : Int) false c.Members = some (0, 0) := by
   apply qw0; rfl
  have hlt : ndiff (2 ^ c.Members.length - 1) s < 1024 := q4p (by omega)
  apply qw0;rw [show Config.mk c.Members = c from rfl, q9s (by omega) hc]
  simp only [cond_true, Option.bind_some];cases hq : quoB c s with
  | false =>
   simp only [Bool.not_false, cond_true];rw [g1];simp only [Option.bind_some];rw [hnext];simp [aptB, hq, aptR, pairI]
  | true =>
   have hm : z2c c = some ((2 ^ c.Members.length - 1 : Nat) : Int) := by
    apply qzo;rw [q0n (by omega), q2g hn]
   simp only [Bool.not_true, cond_false];rw [hm];simp only [Option.bind_some];rw [q2j (by omega) (by omega), qd2 hlt hc]
   simp only [Option.bind_some, qog];cases hg : (q1y c (ndiff (2 ^ c.Members.length - 1) s) != 0) with
   | false =>
    simp only [cond_false];rw [g1];simp only [Option.bind_some];rw [hnext];have : aptB c s = false := by simp only [aptB, hq, hg]; rfl
    simp [this, aptR, pairI]
   | true =>
    simp only [cond_true];have : aptB c s = true := by simp only [aptB, hq, hg]; rfl
    simp [this, aptR, pairI]
 | cons v suf ih =>
  intro pre s e;have hord := q3q (2 ^ c.Members.length - 1);have hs : s < 2 ^ c.Members.length := q1i.2 (q0u.1 (by rw [e]; simp))
  have hv : v < 2 ^ c.Members.length := q1i.2 (q0u.1 (by rw [e]; simp))
  obtain ⟨t', b, g1, g2, g3⟩ := qef hn hs;rw [e, List.pairwise_append, List.pairwise_cons, List.pairwise_cons] at hord;have hsv := hord.2.1.1 v (by simp)
  have hb : b = true := by
   cases b with
   | true => rfl
   | false => exact absurd hsv (g3 rfl v hv)
  subst hb;obtain ⟨h1, h2, h3⟩ := g2 rfl;have ht : t' = v := by
   rcases h3 v hv hsv with h | h
   ·exact h.symm
   ·have hm : t' ∈ q1g (2 ^ c.Members.length - 1) := q0u.2 (q1i.1 h1);rw [e] at hm;rcases List.mem_append.1 hm with h' | h'
    ·exact absurd (q5q h2 (hord.2.2 t' h' s (by simp))) (q17 _)
    ·rcases List.mem_cons.1 h' with h'' | h''
     ·subst h''; exact absurd h2 (q17 _)
     ·rcases List.mem_cons.1 h'' with h4 | h4
      ·exact h4
      ·exact absurd (q5q h (hord.2.1.2.1 t' h4)) (q17 _)
  subst ht;have hnext := ih (pre ++ [s]) t' (by rw [e]; simp)
  have hlt : ndiff (2 ^ c.Members.length - 1) s < 1024 := q4p (by omega)
  apply qw0;rw [show Config.mk c.Members = c from rfl, q9s (by omega) hc]
  simp only [cond_true, Option.bind_some];cases hq : quoB c s with
  | false =>
   simp only [Bool.not_false, cond_true];rw [g1];simp only [Option.bind_some];rw [hnext, List.find?_cons (a := s)];simp [aptB, hq]
  | true =>
   have hm : z2c c = some ((2 ^ c.Members.length - 1 : Nat) : Int) := by
    apply qzo;rw [q0n (by omega), q2g hn]
   simp only [Bool.not_true, cond_false];rw [hm];simp only [Option.bind_some];rw [q2j (by omega) (by omega), qd2 hlt hc]
   simp only [Option.bind_some, qog];cases hg : (q1y c (ndiff (2 ^ c.Members.length - 1) s) != 0) with
   | false =>
    simp only [cond_false];rw [g1];simp only [Option.bind_some];have : aptB c s = false := by simp only [aptB, hq, hg]; rfl
    rw [hnext, List.find?_cons (a := s), this]
   | true =>
    simp only [cond_true];have : aptB c s = true := by simp only [aptB, hq, hg]; rfl
    rw [List.find?_cons (a := s), this]; rfl
theorem qft (u : Nat) : ∃ suf, q1g u = 0 :: suf := by
 have h0 : (0 : Nat) ∈ q1g u := q0u.2 fun i hi => by simp at hi
 cases h : q1g u with
 | nil => rw [h] at h0; cases h0
 | cons a suf =>
  have ho := q3q u;rw [h] at h0 ho;rcases List.mem_cons.1 h0 with e | hm
  ·exact ⟨suf, by rw [e]⟩
  ·have := (List.pairwise_cons.1 ho).1 0 hm;have h1 : pc 0 = 0 := by decide
   rcases this with h2 | ⟨_, h2⟩ <;> omega
theorem qq1 {c : Config} (hc : q0s c) (hn : c.Members.length ≤ 10) : z3v c = some (pairI (apart c)) := by
 obtain ⟨suf, h⟩ := qft (2 ^ c.Members.length - 1);apply y53;have := y2e hc hn suf [] 0 h;rw [← h] at this;exact this
theorem qlh {c : Config} (hc : q0s c) (hn : c.Members.length ≤ 10) {l : List Nat} (hl : l.length ≤ 1024) (hm : ∀ s ∈ l, s < 2 ^ c.Members.length) : ∀ (suf : List Nat) (i : Nat), l.drop i = suf →
  z3f (l.map Int.ofNat) ((l.length : Nat) : Int) (i : Int) c.Members = some (pairI (aptR c (suf.find? (aptB c))))
 | [], i, h => by
  apply y0c;rw [q0j h]; rfl
 | s :: suf, i, h => by
  have hp := pow10 hn;have hp1 := Nat.two_pow_pos c.Members.length;have hlt := q0h h;have hs := hm s (List.mem_of_mem_drop (by rw [h]; exact List.mem_cons_self))
  have ih := qlh hc hn hl hm suf (i + 1) (q05 h);have hd : ndiff (2 ^ c.Members.length - 1) s = 2 ^ c.Members.length - 1 - s := by
   exact qhi hs
  have hlt' : ndiff (2 ^ c.Members.length - 1) s < 1024 := q4p (by omega)
  apply y0c;rw [q09 h];simp only [cond_true, q08 (q1n h)];rw [show Config.mk c.Members = c from rfl, q9m (by omega) hc, q02 (by omega), ih]
  simp only [Option.bind_some];rw [List.find?_cons];cases hq : quoB c s with
  | false => simp [aptB, hq]
  | true =>
   have hmm : z3y c = some ((2 ^ c.Members.length - 1 : Nat) : Int) := by
    apply y0u;rw [q0n (by omega), q2g hn]
   simp only [Bool.not_true, cond_false];rw [hmm];simp only [Option.bind_some];rw [qbj (by omega) (by omega), ← hd, qom hlt' hc]
   simp only [Option.bind_some, qog];cases hg : (q1y c (ndiff (2 ^ c.Members.length - 1) s) != 0) with
   | false =>
    have : aptB c s = false := by simp only [aptB, hq, hg]; rfl
    rw [this]; rfl
   | true =>
    have : aptB c s = true := by simp only [aptB, hq, hg]; rfl
    rw [this]; rfl
theorem qwe {c : Config} (hc : q0s c) (hn : c.Members.length ≤ 10) : z60 c = some (pairI (apart c)) := by
 have hp := pow10 hn;have hp1 := Nat.two_pow_pos c.Members.length;apply y7j;have hmm : z3y c = some ((2 ^ c.Members.length - 1 : Nat) : Int) := by
  apply y0u;rw [q0n (by omega), q2g hn]
 rw [hmm];simp only [Option.bind_some];rw [qnl (by omega)]
 simp only [Option.bind_some, List.length_map];exact qlh hc hn (qcs (by omega)) (fun s hs => q1i.2 (q0u.1 hs)) _ 0 rfl
theorem apart_spec {c : Config} (hn : c.Members.length ≤ 10) : ((apart c).1 = 0 ∧ (apart c).2 = 0 ∧ ∀ a b, q1v c a → q1v c b → a &&& b = 0 → False) ∨
  (q1v c (apart c).1 ∧ q1v c (apart c).2 ∧ (apart c).1 &&& (apart c).2 = 0 ∧ (apart c).1 ≠ 0) := by
 have hp := pow10 hn;have hp1 := Nat.two_pow_pos c.Members.length;unfold apart;cases h : (q1g (2 ^ c.Members.length - 1)).find? (aptB c) with
 | none =>
  refine .inl ⟨rfl, rfl, fun a b ha hb hab => ?_⟩
  have hla : a < 2 ^ c.Members.length := Nat.lt_of_le_of_lt (qew ha.2.1) (q94 hn);have hlb : b < 2 ^ c.Members.length := Nat.lt_of_le_of_lt (qew hb.2.1) (q94 hn);have hno := List.find?_eq_none.1 h a (q0u.2 (q1i.1 hla));apply hno;have hqa := (q9q (by omega)).2 ha
  have hlt : ndiff (2 ^ c.Members.length - 1) a < 1024 := q4p (by omega)
  have hsub : Sub b (ndiff (2 ^ c.Members.length - 1) a) := fun i hi => by
   rw [q06, q1i.1 hlb i hi];cases hai : a.testBit i with
   | false => rfl
   | true =>
    have : (a &&& b).testBit i = true := by rw [Nat.testBit_and, hai, hi]; rfl
    rw [hab] at this; simp at this
  have hg := qls c hlt hb hsub;have : q1y c (ndiff (2 ^ c.Members.length - 1) a) ≠ 0 := fun h0 => by
   rw [h0] at hg;have := qew hg;exact hb.1 (by omega)
  simp [aptB, hqa, this]
 | some s =>
  have h1 := List.find?_some h;have h2 := q1i.2 (q0u.1 (List.mem_of_find?_eq_some h));simp only [aptB, Bool.and_eq_true, bne_iff_ne] at h1;have hlt : ndiff (2 ^ c.Members.length - 1) s < 1024 := q4p (by omega)
  have hQ := (q9q (by omega)).1 h1.1
  refine .inr ⟨hQ, qg7 c hlt h1.2, ?_, hQ.1⟩;apply Nat.eq_of_testBit_eq;intro i;show (s &&& q1y c (ndiff (2 ^ c.Members.length - 1) s)).testBit i = _;rw [Nat.testBit_and, Nat.zero_testBit];cases hsi : s.testBit i with
  | false => rfl
  | true =>
   cases hgi : (q1y c (ndiff (2 ^ c.Members.length - 1) s)).testBit i with
   | false => rfl
   | true =>
    have := (q8b c hlt).trans (Sub.and_left _ _) i hgi;rw [q06, hsi] at this;simp at this
def twoB (c : Config) : Bool := (apart c).1 != 0
theorem qpw {c : Config} (hn : c.Members.length ≤ 10) : twoB c = true ↔ ∃ a b, q1v c a ∧ q1v c b ∧ a &&& b = 0 := by
 simp only [twoB, bne_iff_ne];rcases apart_spec hn with ⟨h1, _, h2⟩ | ⟨h1, h2, h3, h4⟩
 ·exact ⟨fun h => absurd h1 h, fun ⟨a, b, ha, hb, hab⟩ => absurd (h2 a b ha hb hab) id⟩
 ·exact ⟨fun _ => ⟨_, _, h1, h2, h3⟩, fun _ => h4⟩
theorem que {c : Config} (hc : q0s c) (he : cerr c = 0) : z4c c = some (!twoB c, 0) := by
 apply y4t;rw [qc1 hc, he];simp only [Option.bind_some, q0b, cond_false];rw [qq1 hc (q1k.1 he).1];simp only [Option.bind_some, pairI, q5h, twoB];congr 2
 cases h : ((apart c).1 == 0) <;> simp_all
theorem qlo {c : Config} (hc : q0s c) (he : cerr c = 0) : z58 c = some (!twoB c, 0) := by
 apply y7l;rw [q9p hc, he];simp only [Option.bind_some, q0b, cond_false];rw [qwe hc (q1k.1 he).1];simp only [Option.bind_some, pairI, q5h, twoB];congr 2
 cases h : ((apart c).1 == 0) <;> simp_all
def disjR (c : Config) : Int × Int × Int := if twoB c then (((apart c).1 : Int), ((apart c).2 : Int), 0) else (0, 0, 11)
theorem qkr {c : Config} (hc : q0s c) (he : cerr c = 0) : z3c c = some (disjR c) := by
 apply y5x;rw [qc1 hc, he];simp only [Option.bind_some, q0b, cond_false];rw [qq1 hc (q1k.1 he).1];simp only [Option.bind_some, pairI, q5h, twoB, disjR];by_cases h : (apart c).1 = 0
 ·simp [h]
 ·rw [show ((apart c).1 == 0) = false by simp [h]]
  simp [h]
end Go.Proofs.YtbmelgbadedbbaaGreat
