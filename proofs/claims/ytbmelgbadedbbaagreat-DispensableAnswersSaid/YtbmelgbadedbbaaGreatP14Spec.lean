/- What the functions of trusts and sets compute: plain definitions, and the functions' walks. -/
import Derived.Test.YtbmelgbadedbbaaGreatP14Fn0
import Derived.Test.YtbmelgbadedbbaaGreatP14Fn1
import Derived.Test.YtbmelgbadedbbaaGreatP14Fn2
import Derived.Test.YtbmelgbadedbbaaGreatP14Fn3
import Derived.Test.YtbmelgbadedbbaaGreatP14Fn4
import Derived.Test.YtbmelgbadedbbaaGreatP14Fn5
import Derived.Test.YtbmelgbadedbbaaGreatP14Fn6
import Derived.Test.YtbmelgbadedbbaaGreatMachT
namespace Go.Proofs.YtbmelgbadedbbaaGreat
open Go Go.Ab
theorem Trust.ind {p : Trust → Prop} (h : ∀ t, (∀ x ∈ t.Inner, p x) → p t) (t : Trust) : p t :=
 h t fun x _hx => Trust.ind h x
termination_by SizeOf.sizeOf t
decreasing_by
 have := List.sizeOf_lt_of_mem _hx;cases t;simp only [Trust.mk.sizeOf_spec] at *;omega
@[simp] theorem Trust.eta (t : Trust) : Trust.mk t.Threshold t.Nodes t.Inner = t := by cases t; rfl
def has (s : Nat) (k : Int) : Bool := decide (0 ≤ k) && (decide (k < 10) && s.testBit k.toNat)
def cnt (s : Nat) (l : List Int) : Nat := l.countP (has s)
theorem q1f {s : Nat} (h : s < 1024) : z1y s = some true := by
 apply y0u;simp only [q0e (show (0 : Int) ≤ (s : Int) by omega), q0e (show (s : Int) ≤ 1023 by omega), cond_true]
theorem q4u {s : Nat} (h : s < 1024) : z1o s = some true := by
 apply y1d;have : z2e s 10 = some true := by
  apply qv8;simp only [q0e (show (0 : Int) ≤ (s : Int) by omega), cond_true, q0q (show (0 : Int) ≤ 10 by decide), shl1 (show (0 : Int) ≤ 10 by decide) (by decide)]
  rw [q03];show (s : Int) < ((2 ^ 10 : Nat) : Int);omega
 simp only [this, Option.bind_some]
theorem qc9 (s k : Nat) : (s >>> k) &&& 1 = if s.testBit k then 1 else 0 := by
 rw [Nat.testBit_eq_decide_div_mod_eq, Nat.shiftRight_eq_div_pow, Nat.and_one_is_mod];have : s / 2 ^ k % 2 = 0 ∨ s / 2 ^ k % 2 = 1 := by omega
 rcases this with h | h <;> simp [h]
theorem q1y {s : Nat} (h : s < 1024) (k : Int) : z4z s k = some (has s k) := by
 apply y6o;simp only [q1f h, Option.bind_some, cond_true];unfold has;by_cases h0 : 0 ≤ k
 ·by_cases h1 : k < 10
  ·obtain ⟨n, rfl⟩ := Int.eq_ofNat_of_zero_le h0;have hn : n < 10 := by omega
   simp only [q0e h0, q03 h1, cond_true, q0q h0, qp8 s n (by omega), decide_eq_true h0, decide_eq_true h1, Bool.true_and, Int.toNat_natCast]
   have h2 : s >>> n < 2 ^ 62 := Nat.lt_of_le_of_lt (Nat.shiftRight_le _ _) (by omega)
   have h3 : andI .i64 ((s >>> n : Nat) : Int) 1 = (((s >>> n) &&& 1 : Nat) : Int) := q3u (b := 1) h2 (by decide)
   rw [h3, qc9];cases s.testBit n <;> rfl
  ·simp only [q0e h0, q00 (Int.not_lt.1 h1), cond_true, cond_false, h1, decide_false, Bool.false_and, Bool.and_false]
 ·simp only [q09 (Int.not_le.1 h0), cond_false, h0, decide_false, Bool.false_and]
theorem y3c (s k : Nat) : s &&& 2 ^ k = if s.testBit k then 2 ^ k else 0 := by
 apply Nat.eq_of_testBit_eq;intro i;rw [Nat.testBit_and, Nat.testBit_two_pow];by_cases hi : k = i
 ·subst hi;cases h : s.testBit k <;> simp []
 ·cases h : s.testBit k <;> simp [hi]
theorem q26 {s : Nat} (h : s < 1024) (k : Int) : z3n s k = some (has s k) := by
 apply y50;simp only [q4u h, Option.bind_some, cond_true];unfold has;by_cases h0 : 0 ≤ k
 ·by_cases h1 : k < 10
  ·obtain ⟨n, rfl⟩ := Int.eq_ofNat_of_zero_le h0;have hn : n < 10 := by omega
   simp only [q0e h0, q03 h1, cond_true, q0q h0, shl1 h0 (show ((n : Nat) : Int) ≤ 62 by omega), decide_eq_true h0, decide_eq_true h1, Bool.true_and, Int.toNat_natCast]
   have h2 : 2 ^ n < 2 ^ 62 := Nat.pow_lt_pow_right (by decide) (by omega)
   rw [q3u (show s < 2 ^ 62 by omega) h2, y3c]
   cases s.testBit n with
   | true =>
    have : (2 : Nat) ^ n ≠ 0 := by have := Nat.two_pow_pos n; omega
    simp only [if_true];rw [q0s (by omega)]
   | false => rfl
  ·simp only [q0e h0, q00 (Int.not_lt.1 h1), cond_true, cond_false, h1, decide_false, Bool.false_and, Bool.and_false]
 ·simp only [q09 (Int.not_le.1 h0), cond_false, h0, decide_false, Bool.false_and]
mutual
def size : Trust → Nat
 | ⟨_, nodes, inner⟩ => nodes.length + inner.length + sizes inner
def sizes : List Trust → Nat
 | [] => 0
 | x :: r => size x + sizes r
end
mutual
def depth : Trust → Nat
 | ⟨_, _, inner⟩ => q2q inner + 1
def q2q : List Trust → Nat
 | [] => 0
 | x :: r => max (depth x) (q2q r)
end
theorem q1a (t : Trust) : size t = t.Nodes.length + t.Inner.length + sizes t.Inner := by cases t; simp only [size]
theorem q9t (t : Trust) : depth t = q2q t.Inner + 1 := by cases t; simp only [depth]
theorem qjz {x : Trust} {l : List Trust} (h : x ∈ l) : size x ≤ sizes l := by
 induction l with
 | nil => cases h
 | cons y r ih =>
  simp only [sizes];rcases List.mem_cons.1 h with rfl | h
  ·omega
  ·have := ih h; omega
def Small (t : Trust) : Prop := size t < 1152921504606846976
theorem Small.nodes {t : Trust} (h : Small t) : t.Nodes.length < 1152921504606846976 := by unfold Small at h; rw [q1a] at h; omega
theorem Small.inner {t : Trust} (h : Small t) : t.Inner.length < 1152921504606846976 := by unfold Small at h; rw [q1a] at h; omega
theorem Small.mem {t x : Trust} (h : Small t) (hx : x ∈ t.Inner) : Small x := by
 unfold Small at *; rw [q1a] at h; have := qjz hx; omega
mutual
def sat (s : Nat) : Trust → Bool
 | ⟨thr, nodes, inner⟩ => decide (thr ≤ ((cnt s nodes + sats s inner : Nat) : Int))
def sats (s : Nat) : List Trust → Nat
 | [] => 0
 | x :: r => (if sat s x then 1 else 0) + sats s r
end
theorem q8b (s : Nat) (t : Trust) : sat s t = decide (t.Threshold ≤ ((cnt s t.Nodes + sats s t.Inner : Nat) : Int)) := by cases t; simp only [sat]
theorem q8p {s : Nat} (hs : s < 1024) (xs : List Int) (hl : xs.length < 1152921504606846976) (a11 : Int) (a13 : List Int) (a15 : List Trust) :
  ∀ (suf : List Int) (i c : Nat), xs.drop i = suf → c ≤ i → Le (z1v s ((c + cnt s suf : Nat) : Int) a15 ((a15.length : Nat) : Int) 0 a11 a13 a15) (z28 s (c : Int) xs ((xs.length : Nat) : Int) (i : Int) a11 a13 a15)
 | [], i, c, h, hc => fun r hr => by
  apply y0z;simp only [q0j h, cond_false];exact hr
 | y :: suf, i, c, h, hc => fun r hr => by
  apply y0z;have hlt := q0i h;simp only [q0a h, cond_true, q08 h, q1y hs, Option.bind_some, q02 (show i < 4611686018427387904 by omega), q02 (show c < 4611686018427387904 by omega)]
  cases hy : has s y with
  | true =>
   simp only [cond_true];refine q8p hs xs hl a11 a13 a15 suf (i + 1) (c + 1) (q04 h) (by omega) r ?_
   rw [← hr]; congr 2;simp only [cnt, List.countP_cons, hy, if_true]; omega
  | false =>
   simp only [cond_false];refine q8p hs xs hl a11 a13 a15 suf (i + 1) c (q04 h) (by omega) r ?_
   rw [← hr]; congr 2;simp only [cnt, List.countP_cons, hy]; rfl
theorem q4p {s : Nat} (hs : s < 1024) : ∀ t : Trust, Small t → z24 t s = some (sat s t) := by
 apply Trust.ind;intro t ih ht;have hn := ht.nodes;have hi := ht.inner;have l2 : ∀ (suf : List Trust) (i c : Nat), t.Inner.drop i = suf → c ≤ t.Nodes.length + i → z1v s (c : Int) t.Inner ((t.Inner.length : Nat) : Int) (i : Int) t.Threshold t.Nodes t.Inner = some (decide (t.Threshold ≤ ((c + sats s suf : Nat) : Int))) := by
  intro suf;induction suf with
  | nil =>
   intro i c h hc;apply qzw;simp only [q0j h, cond_false, sats, Nat.add_zero];rfl
  | cons y suf ihs =>
   intro i c h hc;apply qzw;have hlt := q0i h;have hy : y ∈ t.Inner := by
    have : y ∈ t.Inner.drop i := by rw [h]; exact List.mem_cons_self
    exact List.mem_of_mem_drop this
   simp only [q0a h, cond_true, q08 h, ih y hy (ht.mem hy), Option.bind_some, q02 (show i < 4611686018427387904 by omega), q02 (show c < 4611686018427387904 by omega)]
   cases hsy : sat s y with
   | true =>
    simp only [cond_true];rw [ihs (i + 1) (c + 1) (q04 h) (by omega)]
    simp only [sats, hsy, if_true];congr 3; omega
   | false =>
    simp only [cond_false];rw [ihs (i + 1) c (q04 h) (by omega)]
    simp only [sats, hsy, Bool.false_eq_true, if_false, Nat.zero_add]
 apply y3x;simp only [q1f hs, Option.bind_some, Bool.not_true, cond_false];apply q8p hs t.Nodes (by omega) t.Threshold t.Nodes t.Inner t.Nodes 0 0 rfl (Nat.le_refl _)
 rw [show (0 : Int) = ((0 : Nat) : Int) from rfl, l2 t.Inner 0 _ rfl (by have : cnt s t.Nodes ≤ t.Nodes.length := List.countP_le_length; omega)]
 rw [q8b, Nat.zero_add]
theorem qo2 : ∀ t : Trust, Small t → z66 t = some ((size t : Nat) : Int) := by
 apply Trust.ind;intro t ih ht;have hn := ht.nodes;have hi := ht.inner;have hs : size t < 1152921504606846976 := ht;have l1 : ∀ (suf : List Trust) (i c : Nat), t.Inner.drop i = suf → c + sizes suf = size t → z4s (c : Int) t.Inner ((t.Inner.length : Nat) : Int) (i : Int) t.Threshold t.Nodes t.Inner = some ((size t : Nat) : Int) := by
  intro suf;induction suf with
  | nil =>
   intro i c h hc;apply qz4;simp only [q0j h, cond_false];simp only [sizes, Nat.add_zero] at hc;rw [hc]
  | cons y suf ihs =>
   intro i c h hc;apply qz4;have hlt := q0i h;have hy : y ∈ t.Inner := List.mem_of_mem_drop (by rw [h]; exact List.mem_cons_self)
   simp only [sizes] at hc;simp only [q0a h, cond_true, q08 h, ih y hy (ht.mem hy), Option.bind_some, q02 (show i < 4611686018427387904 by omega)]
   rw [q1n (by omega) (by omega)]
   exact ihs (i + 1) (c + size y) (q04 h) (by omega)
 apply y4x;rw [q1n (by omega) (by omega)]
 have h1 := q1a t;exact l1 t.Inner 0 (t.Nodes.length + t.Inner.length) rfl (by omega)
theorem q50 : ∀ t : Trust, depth t ≤ size t + 1 := by
 apply Trust.ind;intro t ih;rw [q9t, q1a];have : ∀ l : List Trust, (∀ x ∈ l, depth x ≤ size x + 1) → q2q l ≤ sizes l + l.length := by
  intro l;induction l with
  | nil => intro _; simp [q2q]
  | cons y r ihl =>
   intro h;have h1 := h y (by simp)
   have h2 := ihl (fun x hx => h x (by simp [hx]))
   simp only [q2q, sizes, List.length_cons]; omega
 have := this t.Inner ih;omega
theorem qeo : ∀ t : Trust, Small t → z5z t = some ((depth t : Nat) : Int) := by
 apply Trust.ind;intro t ih ht;have hi := ht.inner;have hd := q50 t;have hs : size t < 1152921504606846976 := ht;have l1 : ∀ (suf : List Trust) (i c : Nat), t.Inner.drop i = suf → max c (q2q suf) = q2q t.Inner → z4f (c : Int) t.Inner ((t.Inner.length : Nat) : Int) (i : Int) t.Threshold t.Nodes t.Inner = some ((depth t : Nat) : Int) := by
  intro suf;induction suf with
  | nil =>
   intro i c h hc;apply qzx;simp only [q0j h, cond_false];simp only [q2q, Nat.max_zero] at hc;rw [q9t] at hd ⊢;rw [hc, q02 (by omega)]
  | cons y suf ihs =>
   intro i c h hc;apply qzx;have hlt := q0i h;have hy : y ∈ t.Inner := List.mem_of_mem_drop (by rw [h]; exact List.mem_cons_self)
   simp only [q2q] at hc;simp only [q0a h, cond_true, q08 h, ih y hy (ht.mem hy), Option.bind_some, q02 (show i < 4611686018427387904 by omega)]
   have : (if ((depth y : Nat) : Int) > (c : Int) then ((depth y : Nat) : Int) else (c : Int)) = ((max c (depth y) : Nat) : Int) := by split <;> omega
   rw [this];exact ihs (i + 1) (max c (depth y)) (q04 h) (by omega)
 apply y60;exact l1 t.Inner 0 0 rfl (by omega)
def inR (k : Int) : Bool := decide (0 ≤ k) && decide (k < 10)
def bit (k : Int) : Nat := 2 ^ k.toNat
theorem qii {k : Int} (h : inR k = true) : bit k < 1024 := by
 simp only [inR, Bool.and_eq_true, decide_eq_true_eq] at h;have : k.toNat < 10 := by omega
 exact Nat.pow_lt_pow_right (a := 2) (by decide) this
theorem qfg {k : Int} (h : inR k = true) : shlI .i64 1 k = ((bit k : Nat) : Int) := by
 simp only [inR, Bool.and_eq_true, decide_eq_true_eq] at h;exact shl1 h.1 (by omega)
theorem qks {s : Nat} {k j : Int} (hk : inR k = true) : has (s ||| bit k) j = (has s j || (decide (j = k))) := by
 simp only [inR, Bool.and_eq_true, decide_eq_true_eq] at hk;simp only [has, bit, Nat.testBit_or, Nat.testBit_two_pow];by_cases h0 : 0 ≤ j
 ·by_cases h1 : j < 10
  ·simp only [h0, h1, decide_true, Bool.true_and];congr 1
   by_cases h2 : j = k
   ·subst h2; simp
   ·have : k.toNat ≠ j.toNat := by omega
    simp [h2, this]
  ·simp only [h1, decide_false, Bool.false_and, Bool.and_false, Bool.false_or];symm; rw [decide_eq_false_iff_not]; omega
 ·simp only [h0, decide_false, Bool.false_and, Bool.false_or];symm; rw [decide_eq_false_iff_not]; omega
def fresh (s : Nat) : List Int → Bool
 | [] => true
 | k :: r => inR k && (!has s k && fresh (s ||| bit k) r)
theorem of_l1 (xs : List Int) (hl : xs.length < 1152921504606846976) : ∀ (suf : List Int) (i s : Nat), xs.drop i = suf → s < 1024 →
  ∃ v e, z26 (s : Int) xs ((xs.length : Nat) : Int) (i : Int) = some (v, e) ∧ (e = 0 ↔ fresh s suf = true)
 | [], i, s, h, hs => ⟨s, 0, by
   apply qdb;simp only [q0j h, cond_false], by simp [fresh]⟩
 | y :: suf, i, s, h, hs => by
  have hlt := q0i h;by_cases hy : inR y = true
  ·have hy' := hy;simp only [inR, Bool.and_eq_true, decide_eq_true_eq] at hy';cases hh : has s y with
   | true =>
    refine ⟨0, 6, ?_, by simp [fresh, hy, hh]⟩
    apply qdb;simp only [q0a h, cond_true, q08 h, q00 hy'.1, q09 hy'.2, cond_false, q1y hs, hh, Option.bind_some]
   | false =>
    have hb := qii hy;obtain ⟨v, e, h1, h2⟩ := of_l1 xs hl suf (i + 1) (s ||| bit y) (q04 h) (Nat.or_lt_two_pow (n := 10) hs hb);refine ⟨v, e, ?_, by rw [h2]; simp [fresh, hy, hh]⟩
    apply qdb;simp only [q0a h, cond_true, q08 h, q00 hy'.1, q09 hy'.2, cond_false, q1y hs, hh, Option.bind_some, q0q hy'.1, qfg hy, q5i (show s < 2 ^ 62 by omega) (show bit y < 2 ^ 62 by omega), q02 (show i < 4611686018427387904 by omega)]
    exact h1
  ·have hn : ¬ (0 ≤ y ∧ y < 10) := by simpa [inR] using hy
   refine ⟨0, 5, ?_, by simp [fresh, hy]⟩
   apply qdb;simp only [q0a h, cond_true, q08 h];by_cases h0 : y < 0
   ·simp only [q03 h0, cond_true]
   ·simp only [q00 (Int.not_lt.1 h0), cond_false, q0e (show 10 ≤ y by omega), cond_true]
theorem of_ok (xs : List Int) (hl : xs.length < 1152921504606846976) : ∃ v e, z6g xs = some (v, e) ∧ (e = 0 ↔ fresh 0 xs = true) := by
 obtain ⟨v, e, h1, h2⟩ := of_l1 xs hl xs 0 0 rfl (by decide)
 exact ⟨v, e, y03 _ _ h1, h2⟩
mutual
def good : Trust → Bool
 | ⟨thr, nodes, inner⟩ => decide (1 ≤ thr) && (decide (thr ≤ ((nodes.length + inner.length : Nat) : Int)) && (nodes.all inR && (fresh 0 nodes && goods inner)))
def goods : List Trust → Bool
 | [] => true
 | x :: r => good x && goods r
end
theorem q99 (t : Trust) : good t = (decide (1 ≤ t.Threshold) && (decide (t.Threshold ≤ ((t.Nodes.length + t.Inner.length : Nat) : Int)) && (t.Nodes.all inR && (fresh 0 t.Nodes && goods t.Inner)))) := by cases t; simp only [good]
theorem qp2 (xs : List Int) (hl : xs.length < 1152921504606846976) (thr : Int) (inner : List Trust) (Q : Int → Prop) (hQ : ∃ e, z1n inner ((inner.length : Nat) : Int) 0 thr xs inner = some e ∧ Q e) : ∀ (suf : List Int) (i : Nat), xs.drop i = suf →
  ∃ e, z1m xs ((xs.length : Nat) : Int) (i : Int) thr xs inner = some e ∧ (if suf.all inR && fresh 0 xs then Q e else e ≠ 0)
 | [], i, h => by
  obtain ⟨v, e, h1, h2⟩ := of_ok xs hl;cases hf : fresh 0 xs with
  | true =>
   obtain ⟨e', h3, h4⟩ := hQ;refine ⟨e', ?_, by simpa [hf] using h4⟩
   apply qfl;have he : e = 0 := h2.2 hf;subst he;simp only [q0j h, cond_false, h1, Option.bind_some, q0d, h3]
  | false =>
   have he : e ≠ 0 := fun h0 => by rw [h2.1 h0] at hf; cases hf
   refine ⟨e, ?_, by simp [he]⟩
   apply qfl;simp only [q0j h, cond_false, h1, Option.bind_some, q0s he, cond_true]
 | y :: suf, i, h => by
  have hlt := q0i h;by_cases hy : inR y = true
  ·have hy' := hy;simp only [inR, Bool.and_eq_true, decide_eq_true_eq] at hy';obtain ⟨e, h1, h2⟩ := qp2 xs hl thr inner Q hQ suf (i + 1) (q04 h);refine ⟨e, ?_, by simpa [hy] using h2⟩
   apply qfl;simp only [q0a h, cond_true, q08 h, q00 hy'.1, q09 hy'.2, cond_false, q02 (show i < 4611686018427387904 by omega), h1]
  ·have hn : ¬ (0 ≤ y ∧ y < 10) := by simpa [inR] using hy
   refine ⟨5, ?_, by simp [hy]⟩
   apply qfl;simp only [q0a h, cond_true, q08 h];by_cases h0 : y < 0
   ·simp only [q03 h0, cond_true]
   ·simp only [q00 (Int.not_lt.1 h0), cond_false, q0e (show 10 ≤ y by omega), cond_true]
theorem qxy : ∀ t : Trust, Small t → ∃ e, z3o t = some e ∧ (e = 0 ↔ good t = true) := by
 apply Trust.ind;intro t ih ht;have hn := ht.nodes;have hi := ht.inner;have hs : size t < 1152921504606846976 := ht;rw [q1a] at hs;have l2 : ∀ (suf : List Trust) (i : Nat), t.Inner.drop i = suf → ∃ e, z1n t.Inner ((t.Inner.length : Nat) : Int) (i : Int) t.Threshold t.Nodes t.Inner = some e ∧ (e = 0 ↔ goods suf = true) := by
  intro suf;induction suf with
  | nil =>
   intro i h;refine ⟨0, ?_, by simp [goods]⟩
   apply qlf;simp only [q0j h, cond_false]
  | cons y suf ihs =>
   intro i h;have hlt := q0i h;have hy : y ∈ t.Inner := List.mem_of_mem_drop (by rw [h]; exact List.mem_cons_self)
   obtain ⟨e, h1, h2⟩ := ih y hy (ht.mem hy);by_cases he : e = 0
   ·obtain ⟨e', h3, h4⟩ := ihs (i + 1) (q04 h);refine ⟨e', ?_, by rw [h4]; simp [goods, h2.1 he]⟩
    apply qlf;simp only [q0a h, cond_true, q08 h, h1, Option.bind_some, he, q0d, cond_false, q02 (show i < 4611686018427387904 by omega), h3]
   ·refine ⟨e, ?_, ?_⟩
    ·apply qlf;simp only [q0a h, cond_true, q08 h, h1, Option.bind_some, q0s he]
    ·have : good y = false := by
      cases hg : good y with
      | true => exact absurd (h2.2 hg) he
      | false => rfl
     simp [goods, this, he]
 rw [q99];by_cases h1 : 1 ≤ t.Threshold
 ·by_cases h2 : t.Threshold ≤ ((t.Nodes.length + t.Inner.length : Nat) : Int)
  ·obtain ⟨e, h3, h4⟩ := qp2 t.Nodes (by omega) t.Threshold t.Inner (fun e => e = 0 ↔ goods t.Inner = true) (l2 t.Inner 0 rfl) t.Nodes 0 rfl
   refine ⟨e, ?_, ?_⟩
   ·apply qq2;rw [q00 h1, q1n (by omega) (by omega), q00 (by omega)]
    simp only [cond_false];exact h3
   ·simp only [decide_eq_true h1, decide_eq_true h2, Bool.true_and];cases ha : t.Nodes.all inR <;> cases hf : fresh 0 t.Nodes <;> simp [ha, hf] at h4 ⊢ <;> exact h4
  ·refine ⟨4, ?_, by rw [decide_eq_false h2]; simp⟩
   apply qq2;rw [q00 h1, q1n (by omega) (by omega), q03 (by omega)]
   simp only [cond_false, cond_true]
 ·refine ⟨4, ?_, by simp [h1]⟩
  apply qq2;rw [q03 (by omega)]
  simp only [cond_true]
def valid (t : Trust) : Bool := decide (depth t ≤ 4) && (decide (size t ≤ 200) && good t)
theorem qyr (t : Trust) (ht : Small t) : ∃ e, z36 t = some e ∧ (e = 0 ↔ valid t = true) := by
 have hs : size t < 1152921504606846976 := ht;by_cases h1 : depth t ≤ 4
 ·by_cases h2 : size t ≤ 200
  ·obtain ⟨e, h3, h4⟩ := qxy t ht;refine ⟨e, ?_, by simp [valid, h1, h2, h4]⟩
   apply qqf;rw [qeo t ht];simp only [Option.bind_some];rw [q00 (by omega), qo2 t ht]
   simp only [cond_false, Option.bind_some];rw [q00 (by omega)]
   simp only [cond_false, h3, Option.bind_some]
  ·refine ⟨3, ?_, by simp [valid, h2]⟩
   apply qqf;rw [qeo t ht];simp only [Option.bind_some];rw [q00 (by omega), qo2 t ht]
   simp only [cond_false, Option.bind_some];rw [q03 (by omega)]
   simp only [cond_true]
 ·refine ⟨3, ?_, by simp [valid, h1]⟩
  apply qqf;rw [qeo t ht];simp only [Option.bind_some];rw [q03 (by omega)]
  simp only [cond_true]
end Go.Proofs.YtbmelgbadedbbaaGreat
