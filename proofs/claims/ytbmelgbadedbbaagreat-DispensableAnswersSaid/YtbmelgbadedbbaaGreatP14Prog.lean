/- The program's own functions of trusts and sets: they compute what the references do. -/
import Derived.Test.YtbmelgbadedbbaaGreatP14Sets
namespace Go.Proofs.YtbmelgbadedbbaaGreat
open Go Go.Ab
theorem q7g {s : Nat} (hs : s < 1024) (xs : List Int) (hl : xs.length < 1152921504606846976) (a11 : Int) (a13 : List Int) (a15 : List Trust) :
  ∀ (suf : List Int) (i c : Nat), xs.drop i = suf → c ≤ i → Le (z1e s ((c + cnt s suf : Nat) : Int) a15 ((a15.length : Nat) : Int) 0 a11 a13 a15) (z1l s (c : Int) xs ((xs.length : Nat) : Int) (i : Int) a11 a13 a15)
 | [], i, c, h, hc => fun r hr => by
  apply y0b;simp only [q0j h, cond_false];exact hr
 | y :: suf, i, c, h, hc => fun r hr => by
  apply y0b;have hlt := q0i h;simp only [q0a h, cond_true, q08 h, q26 hs, Option.bind_some, q02 (show i < 4611686018427387904 by omega), q02 (show c < 4611686018427387904 by omega)]
  cases hy : has s y with
  | true =>
   simp only [cond_true];refine q7g hs xs hl a11 a13 a15 suf (i + 1) (c + 1) (q04 h) (by omega) r ?_
   rw [← hr]; congr 2;simp only [cnt, List.countP_cons, hy, if_true]; omega
  | false =>
   simp only [cond_false];refine q7g hs xs hl a11 a13 a15 suf (i + 1) c (q04 h) (by omega) r ?_
   rw [← hr]; congr 2;simp only [cnt, List.countP_cons, hy]; rfl
theorem q3v {s : Nat} (hs : s < 1024) : ∀ t : Trust, Small t → z1r t s = some (sat s t) := by
 apply Trust.ind;intro t ih ht;have hn := ht.nodes;have hi := ht.inner;have l2 : ∀ (suf : List Trust) (i c : Nat), t.Inner.drop i = suf → c ≤ t.Nodes.length + i → z1e s (c : Int) t.Inner ((t.Inner.length : Nat) : Int) (i : Int) t.Threshold t.Nodes t.Inner = some (decide (t.Threshold ≤ ((c + sats s suf : Nat) : Int))) := by
  intro suf;induction suf with
  | nil =>
   intro i c h hc;apply qzb;simp only [q0j h, cond_false, sats, Nat.add_zero];rfl
  | cons y suf ihs =>
   intro i c h hc;apply qzb;have hlt := q0i h;have hy : y ∈ t.Inner := by
    have : y ∈ t.Inner.drop i := by rw [h]; exact List.mem_cons_self
    exact List.mem_of_mem_drop this
   simp only [q0a h, cond_true, q08 h, ih y hy (ht.mem hy), Option.bind_some, q02 (show i < 4611686018427387904 by omega), q02 (show c < 4611686018427387904 by omega)]
   cases hsy : sat s y with
   | true =>
    simp only [cond_true];rw [ihs (i + 1) (c + 1) (q04 h) (by omega)]
    simp only [sats, hsy, if_true];congr 3; omega
   | false =>
    simp only [cond_false];rw [ihs (i + 1) c (q04 h) (by omega)]
    simp only [sats, hsy, Bool.false_eq_true, if_false, Nat.zero_add]
 apply y4y;simp only [q4u hs, Option.bind_some, Bool.not_true, cond_false];apply q7g hs t.Nodes (by omega) t.Threshold t.Nodes t.Inner t.Nodes 0 0 rfl (Nat.le_refl _)
 rw [show (0 : Int) = ((0 : Nat) : Int) from rfl, l2 t.Inner 0 _ rfl (by have : cnt s t.Nodes ≤ t.Nodes.length := List.countP_le_length; omega)]
 rw [q8b, Nat.zero_add]
theorem qyu : ∀ t : Trust, Small t → z53 t = some ((size t : Nat) : Int) := by
 apply Trust.ind;intro t ih ht;have hn := ht.nodes;have hi := ht.inner;have hs : size t < 1152921504606846976 := ht;have l1 : ∀ (suf : List Trust) (i c : Nat), t.Inner.drop i = suf → c + sizes suf = size t → z32 (c : Int) t.Inner ((t.Inner.length : Nat) : Int) (i : Int) t.Threshold t.Nodes t.Inner = some ((size t : Nat) : Int) := by
  intro suf;induction suf with
  | nil =>
   intro i c h hc;apply qyx;simp only [q0j h, cond_false];simp only [sizes, Nat.add_zero] at hc;rw [hc]
  | cons y suf ihs =>
   intro i c h hc;apply qyx;have hlt := q0i h;have hy : y ∈ t.Inner := List.mem_of_mem_drop (by rw [h]; exact List.mem_cons_self)
   simp only [sizes] at hc;simp only [q0a h, cond_true, q08 h, ih y hy (ht.mem hy), Option.bind_some, q02 (show i < 4611686018427387904 by omega)]
   rw [q1n (by omega) (by omega)]
   exact ihs (i + 1) (c + size y) (q04 h) (by omega)
 apply y5o;rw [q1n (by omega) (by omega)]
 have h1 := q1a t;exact l1 t.Inner 0 (t.Nodes.length + t.Inner.length) rfl (by omega)
theorem qts : ∀ t : Trust, Small t → z4p t = some ((depth t : Nat) : Int) := by
 apply Trust.ind;intro t ih ht;have hi := ht.inner;have hd := q50 t;have hs : size t < 1152921504606846976 := ht;have l1 : ∀ (suf : List Trust) (i c : Nat), t.Inner.drop i = suf → max c (q2q suf) = q2q t.Inner → z2w (c : Int) t.Inner ((t.Inner.length : Nat) : Int) (i : Int) t.Threshold t.Nodes t.Inner = some ((depth t : Nat) : Int) := by
  intro suf;induction suf with
  | nil =>
   intro i c h hc;apply y1n;simp only [q0j h, cond_false];simp only [q2q, Nat.max_zero] at hc;rw [q9t] at hd ⊢;rw [hc, q02 (by omega)]
  | cons y suf ihs =>
   intro i c h hc;apply y1n;have hlt := q0i h;have hy : y ∈ t.Inner := List.mem_of_mem_drop (by rw [h]; exact List.mem_cons_self)
   simp only [q2q] at hc;simp only [q0a h, cond_true, q08 h, ih y hy (ht.mem hy), Option.bind_some, q02 (show i < 4611686018427387904 by omega)]
   have : (if ((depth y : Nat) : Int) > (c : Int) then ((depth y : Nat) : Int) else (c : Int)) = ((max c (depth y) : Nat) : Int) := by split <;> omega
   rw [this];exact ihs (i + 1) (max c (depth y)) (q04 h) (by omega)
 apply y7c;exact l1 t.Inner 0 0 rfl (by omega)
theorem qf8 {s : Nat} (hs : s < 1024) : ∀ (n i : Nat) (acc : List Int), i + n = 10 → acc.length ≤ i → z2t (s : Int) acc (i : Int) = some (acc ++ (q0u s n i).map Int.ofNat)
 | 0, i, acc, h, ha => by
  apply qzn;rw [q00 (by omega)]
  simp [q0u]
 | n + 1, i, acc, h, ha => by
  apply qzn;rw [q03 (by omega)]
  simp only [cond_true, q26 hs, Option.bind_some, q43 (show i < 10 by omega), q02 (show i < 4611686018427387904 by omega), q0u]
  cases hb : s.testBit i with
  | true =>
   simp only [cond_true, if_true];rw [q06 (by simp [q0f]; omega), qf8 hs n (i + 1) _ (by omega) (by simp; omega)]
   simp
  | false =>
   simp only [cond_false, Bool.false_eq_true, if_false];rw [qf8 hs n (i + 1) _ (by omega) (by omega)]
theorem qgf {s : Nat} (hs : s < 1024) : z5c (s : Int) = some ((nodes s).map Int.ofNat) := by
 apply y4b;rw [show (0 : Int) = ((0 : Nat) : Int) from rfl, qf8 hs 10 0 [] rfl (by simp)]
 rfl
theorem q5t (l a8 : List Member) (hl : l.length < 1152921504606846976) : ∀ (suf : List Member) (i s : Nat), l.drop i = suf → s < 1024 → z18 (s : Int) l ((l.length : Nat) : Int) (i : Int) a8 = some ((s ||| q2p i suf : Nat) : Int)
 | [], i, s, h, hs => by
  apply y0s;simp only [q0j h, cond_false, q2p, Nat.or_zero]
 | m :: suf, i, s, h, hs => by
  have hlt := q0i h;apply y0s;simp only [q0a h, cond_true, q08 h, q02 (show i < 4611686018427387904 by omega), q2p]
  by_cases hi : i < 10
  ·have hp : 2 ^ i < 1024 := Nat.pow_lt_pow_right (a := 2) (by decide) hi
   rw [q03 (by omega)]
   cases hd : m.Declared with
   | true =>
    simp only [cond_true];rw [q0q (by omega), shl1 (by omega) (by omega), Int.toNat_natCast, q5i (by omega) (by omega), q5t l a8 hl suf (i + 1) _ (q04 h) (Nat.or_lt_two_pow (n := 10) hs hp)]
    simp only [decide_eq_true hi, Bool.and_self, if_true, Nat.or_assoc]
   | false =>
    simp only [cond_true, cond_false];rw [q5t l a8 hl suf (i + 1) _ (q04 h) hs];simp
  ·rw [q00 (by omega)]
   simp only [cond_false];rw [q5t l a8 hl suf (i + 1) _ (q04 h) hs];simp [hi]
theorem q62 (c : Config) (h : c.Members.length < 1152921504606846976) : z1j c = some ((decl c : Nat) : Int) := by
 apply y5i;rw [show (0 : Int) = ((0 : Nat) : Int) from rfl, q5t c.Members c.Members h c.Members 0 0 rfl (by decide), Nat.zero_or]
 rfl
theorem qq0 (k : Int) : z56 k = some (inR k) := by
 apply y6a;unfold inR;by_cases h0 : 0 ≤ k
 ·by_cases h1 : k < 10
  ·simp [q0e h0, q03 h1, h0, h1]
  ·simp [q0e h0, q00 (Int.not_lt.1 h1), h0, h1]
 ·simp [q09 (Int.not_le.1 h0), h0]
theorem qit (xs : List Int) (hl : xs.length < 1152921504606846976) (a9 : Int) (a11 : List Int) (a13 : List Trust) : ∀ (suf : List Int) (i c : Nat), xs.drop i = suf → c < 1024 →
  Le (z2m ((c ||| usesN suf : Nat) : Int) a13 ((a13.length : Nat) : Int) 0 a9 a11 a13) (z2l (c : Int) xs ((xs.length : Nat) : Int) (i : Int) a9 a11 a13)
 | [], i, c, h, hc => fun r hr => by
  apply y0t;simp only [q0j h, cond_false];simpa [usesN] using hr
 | y :: suf, i, c, h, hc => fun r hr => by
  have hlt := q0i h;apply y0t;simp only [q0a h, cond_true, q08 h, q02 (show i < 4611686018427387904 by omega), qq0, Option.bind_some]
  cases hy : inR y with
  | true =>
   have hy' := hy;simp only [inR, Bool.and_eq_true, decide_eq_true_eq] at hy';have hb := qii hy;simp only [cond_true, q0q hy'.1, qfg hy, q5i (show c < 2 ^ 62 by omega) (show bit y < 2 ^ 62 by omega)]
   refine qit xs hl a9 a11 a13 suf (i + 1) (c ||| bit y) (q04 h) (Nat.or_lt_two_pow (n := 10) hc hb) r ?_;rw [← hr]; congr 2;simp only [usesN, hy, if_true, Nat.or_assoc]
  | false =>
   simp only [cond_false];refine qit xs hl a9 a11 a13 suf (i + 1) c (q04 h) hc r ?_;rw [← hr]; congr 2;simp [usesN, hy]
theorem qxt : ∀ t : Trust, Small t → z54 t = some ((uses t : Nat) : Int) := by
 apply Trust.ind;intro t ih ht;have hn := ht.nodes;have hi := ht.inner;have l2 : ∀ (suf : List Trust) (i c : Nat), t.Inner.drop i = suf → c < 1024 → z2m (c : Int) t.Inner ((t.Inner.length : Nat) : Int) (i : Int) t.Threshold t.Nodes t.Inner = some ((c ||| usesL suf : Nat) : Int) := by
  intro suf;induction suf with
  | nil =>
   intro i c h hc;apply y0d;simp only [q0j h, cond_false, usesL, Nat.or_zero]
  | cons y suf ihs =>
   intro i c h hc;have hlt := q0i h;have hy : y ∈ t.Inner := List.mem_of_mem_drop (by rw [h]; exact List.mem_cons_self)
   have hu := qio y;apply y0d;simp only [q0a h, cond_true, q08 h, ih y hy (ht.mem hy), Option.bind_some, q02 (show i < 4611686018427387904 by omega), q5i (show c < 2 ^ 62 by omega) (show uses y < 2 ^ 62 by omega)]
   rw [ihs (i + 1) (c ||| uses y) (q04 h) (Nat.or_lt_two_pow (n := 10) hc hu)];simp only [usesL, Nat.or_assoc]
 apply y5v;refine qit t.Nodes (by omega) _ _ _ t.Nodes 0 0 rfl (by decide) _ ?_
 rw [show (0 : Int) = ((0 : Nat) : Int) from rfl, l2 t.Inner 0 _ rfl (Nat.or_lt_two_pow (n := 10) (by decide) (qeq _)), Nat.zero_or, q67]
end Go.Proofs.YtbmelgbadedbbaaGreat
