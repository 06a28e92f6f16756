/- Errors of trusts and configurations: the program and the reference agree. -/
import Derived.Test.YtbmelgbadedbbaaGreatP14Same
import Derived.Test.YtbmelgbadedbbaaGreatP14Prog
import Derived.Test.YtbmelgbadedbbaaGreatP14Quor
namespace Go.Proofs.YtbmelgbadedbbaaGreat
open Go Go.Ab
def ofE (s : Nat) : List Int → Int
 | [] => 0
 | k :: r => if inR k = true then (if has s k = true then 6 else ofE (s ||| bit k) r) else 5
theorem qmm : ∀ (l : List Int) (s : Nat), ofE s l = 0 ↔ fresh s l = true
 | [], s => by simp [ofE, fresh]
 | k :: r, s => by
  have := qmm r (s ||| bit k);by_cases h1 : inR k = true <;> by_cases h2 : has s k = true <;> simp [ofE, fresh, h1, h2, this]
theorem qj7 {y : Int} (h : ¬ inR y = true) : ¬ (0 ≤ y ∧ y < 10) := by simpa [inR] using h
theorem qu8 (xs : List Int) (hl : xs.length < 1152921504606846976) : ∀ (suf : List Int) (i s : Nat), xs.drop i = suf → s < 1024 →
  ∃ v, z26 (s : Int) xs ((xs.length : Nat) : Int) (i : Int) = some (v, ofE s suf)
 | [], i, s, h, hs => ⟨s, by
   apply qdb;simp only [q0j h, cond_false, ofE]⟩
 | y :: suf, i, s, h, hs => by
  have hlt := q0i h;by_cases hy : inR y = true
  ·have hy' := hy;simp only [inR, Bool.and_eq_true, decide_eq_true_eq] at hy';cases hh : has s y with
   | true =>
    refine ⟨0, ?_⟩;apply qdb;simp only [q0a h, cond_true, q08 h, q00 hy'.1, q09 hy'.2, cond_false, q1y hs, hh, Option.bind_some, ofE, hy, if_true]
   | false =>
    have hb := qii hy;obtain ⟨v, h1⟩ := qu8 xs hl suf (i + 1) (s ||| bit y) (q04 h) (Nat.or_lt_two_pow (n := 10) hs hb);refine ⟨v, ?_⟩;apply qdb;simp only [q0a h, cond_true, q08 h, q00 hy'.1, q09 hy'.2, cond_false, q1y hs, hh, Option.bind_some, q0q hy'.1, qfg hy, q5i (show s < 2 ^ 62 by omega) (show bit y < 2 ^ 62 by omega), q02 (show i < 4611686018427387904 by omega), ofE, hy, if_true]
    exact h1
  ·have hn := qj7 hy;refine ⟨0, ?_⟩;apply qdb;simp only [q0a h, cond_true, q08 h, ofE, hy];by_cases h0 : y < 0
   ·simp only [q03 h0, cond_true]; rfl
   ·simp only [q00 (Int.not_lt.1 h0), cond_false, q0e (show 10 ≤ y by omega), cond_true]; rfl
theorem y24 (xs : List Int) (hl : xs.length < 1152921504606846976) : ∃ v, z6g xs = some (v, ofE 0 xs) := by
 obtain ⟨v, h1⟩ := qu8 xs hl xs 0 0 rfl (by decide)
 exact ⟨v, y03 _ _ h1⟩
theorem qwc (xs : List Int) (hl : xs.length < 1152921504606846976) : ∀ (suf : List Int) (i s : Nat), xs.drop i = suf → s < 1024 →
  ∃ v, z3a (s : Int) xs ((xs.length : Nat) : Int) (i : Int) = some (v, ofE s suf)
 | [], i, s, h, hs => ⟨s, by
   apply qpv;simp only [q0j h, cond_false, ofE]⟩
 | y :: suf, i, s, h, hs => by
  have hlt := q0i h;by_cases hy : inR y = true
  ·have hy' := hy;simp only [inR, Bool.and_eq_true, decide_eq_true_eq] at hy';cases hh : has s y with
   | true =>
    refine ⟨0, ?_⟩;apply qpv;simp only [q0a h, cond_true, q08 h, q00 hy'.1, q09 hy'.2, cond_false, q26 hs, hh, Option.bind_some, ofE, hy, if_true]
   | false =>
    have hb := qii hy;obtain ⟨v, h1⟩ := qwc xs hl suf (i + 1) (s ||| bit y) (q04 h) (Nat.or_lt_two_pow (n := 10) hs hb);refine ⟨v, ?_⟩;apply qpv;simp only [q0a h, cond_true, q08 h, q00 hy'.1, q09 hy'.2, cond_false, q26 hs, hh, Option.bind_some, q0q hy'.1, qfg hy, q5i (show s < 2 ^ 62 by omega) (show bit y < 2 ^ 62 by omega), q02 (show i < 4611686018427387904 by omega), ofE, hy, if_true]
    exact h1
  ·have hn := qj7 hy;refine ⟨0, ?_⟩;apply qpv;simp only [q0a h, cond_true, q08 h, ofE, hy];by_cases h0 : y < 0
   ·simp only [q03 h0, cond_true]; rfl
   ·simp only [q00 (Int.not_lt.1 h0), cond_false, q0e (show 10 ≤ y by omega), cond_true]; rfl
theorem y3d (xs : List Int) (hl : xs.length < 1152921504606846976) : ∃ v, z6k xs = some (v, ofE 0 xs) := by
 obtain ⟨v, h1⟩ := qwc xs hl xs 0 0 rfl (by decide)
 exact ⟨v, y7t _ _ h1⟩
mutual
def lev : Trust → Int
 | ⟨thr, nodes, inner⟩ => if 1 ≤ thr ∧ thr ≤ ((nodes.length + inner.length : Nat) : Int) then (if nodes.all inR = true then (if ofE 0 nodes = 0 then levs inner else ofE 0 nodes) else 5) else 4
def levs : List Trust → Int
 | [] => 0
 | x :: r => if lev x = 0 then levs r else lev x
end
theorem qu1 (t : Trust) : lev t = if 1 ≤ t.Threshold ∧ t.Threshold ≤ ((t.Nodes.length + t.Inner.length : Nat) : Int) then (if t.Nodes.all inR = true then (if ofE 0 t.Nodes = 0 then levs t.Inner else ofE 0 t.Nodes) else 5) else 4 := by cases t; simp only [lev]
theorem qyj : ∀ t : Trust, lev t = 0 ↔ good t = true := by
 apply Trust.ind;intro t ih;have hi : ∀ l : List Trust, (∀ x ∈ l, (lev x = 0 ↔ good x = true)) → (levs l = 0 ↔ goods l = true) := by
  intro l;induction l with
  | nil => intro _; simp [levs, goods]
  | cons y r ihr =>
   intro h;have h1 := h y (by simp)
   have h2 := ihr fun x hx => h x (by simp [hx])
   by_cases hy : lev y = 0
   ·simp [levs, goods, hy, h1.1 hy, h2]
   ·have : good y = false := by
     cases hg : good y with
     | true => exact absurd (h1.2 hg) hy
     | false => rfl
    simp [levs, goods, hy, this]
 have hin := hi t.Inner ih;have hf := qmm t.Nodes 0;rw [qu1, q99];by_cases h1 : 1 ≤ t.Threshold <;> by_cases h2 : t.Threshold ≤ ((t.Nodes.length + t.Inner.length : Nat) : Int)
 ·rw [if_pos ⟨h1, h2⟩, decide_eq_true h1, decide_eq_true h2];by_cases h3 : t.Nodes.all inR = true
  ·rw [if_pos h3, h3];by_cases h4 : ofE 0 t.Nodes = 0
   ·rw [if_pos h4, hf.1 h4, hin]; simp
   ·rw [if_neg h4];have : fresh 0 t.Nodes = false := by
     cases hg : fresh 0 t.Nodes with
     | true => exact absurd (hf.2 hg) h4
     | false => rfl
    simp [this, h4]
  ·rw [if_neg h3];have h3' : t.Nodes.all inR = false := by simpa using h3
   simp [h3']
 ·rw [if_neg (fun h => h2 h.2), decide_eq_false h2]; simp
 ·rw [if_neg (fun h => h1 h.1), decide_eq_false h1]; simp
 ·rw [if_neg (fun h => h1 h.1), decide_eq_false h1]; simp
theorem qtp (xs : List Int) (hl : xs.length < 1152921504606846976) (thr : Int) (inner : List Trust) (e : Int) (he : z1n inner ((inner.length : Nat) : Int) 0 thr xs inner = some e) : ∀ (suf : List Int) (i : Nat), xs.drop i = suf →
  z1m xs ((xs.length : Nat) : Int) (i : Int) thr xs inner = some (if suf.all inR = true then (if ofE 0 xs = 0 then e else ofE 0 xs) else 5)
 | [], i, h => by
  obtain ⟨v, h1⟩ := y24 xs hl;apply qfl;simp only [q0j h, cond_false, h1, Option.bind_some, List.all_nil, if_true];by_cases h0 : ofE 0 xs = 0
  ·rw [if_pos h0, h0, q0d]; exact he
  ·rw [if_neg h0, q0s h0]; rfl
 | y :: suf, i, h => by
  have hlt := q0i h;by_cases hy : inR y = true
  ·have hy' := hy;simp only [inR, Bool.and_eq_true, decide_eq_true_eq] at hy';have h1 := qtp xs hl thr inner e he suf (i + 1) (q04 h);apply qfl;simp only [q0a h, cond_true, q08 h, q00 hy'.1, q09 hy'.2, cond_false, q02 (show i < 4611686018427387904 by omega), h1, List.all_cons, hy, Bool.true_and]
  ·have hn := qj7 hy;apply qfl;have hy2 : inR y = false := by simpa using hy
   simp only [q0a h, cond_true, q08 h, List.all_cons, hy2, Bool.false_and];by_cases h0 : y < 0
   ·simp only [q03 h0, cond_true]; rfl
   ·simp only [q00 (Int.not_lt.1 h0), cond_false, q0e (show 10 ≤ y by omega), cond_true]; rfl
theorem y2o : ∀ t : Trust, Small t → z3o t = some (lev t) := by
 apply Trust.ind;intro t ih ht;have hn := ht.nodes;have hi := ht.inner;have hs : size t < 1152921504606846976 := ht;rw [q1a] at hs;have l2 : ∀ (suf : List Trust) (i : Nat), t.Inner.drop i = suf → z1n t.Inner ((t.Inner.length : Nat) : Int) (i : Int) t.Threshold t.Nodes t.Inner = some (levs suf) := by
  intro suf;induction suf with
  | nil =>
   intro i h;apply qlf;simp only [q0j h, cond_false, levs]
  | cons y suf ihs =>
   intro i h;have hlt := q0i h;have hy : y ∈ t.Inner := List.mem_of_mem_drop (by rw [h]; exact List.mem_cons_self)
   have h1 := ih y hy (ht.mem hy);apply qlf;simp only [q0a h, cond_true, q08 h, h1, Option.bind_some, levs];by_cases he : lev y = 0
   ·rw [if_pos he, he, q0d, q02 (show i < 4611686018427387904 by omega), ihs (i + 1) (q04 h)]; rfl
   ·rw [if_neg he, q0s he]; rfl
 rw [qu1];apply qq2;by_cases h1 : 1 ≤ t.Threshold
 ·by_cases h2 : t.Threshold ≤ ((t.Nodes.length + t.Inner.length : Nat) : Int)
  ·rw [if_pos ⟨h1, h2⟩, q00 h1, q1n (by omega) (by omega), q00 (by omega)]
   simp only [cond_false];exact qtp t.Nodes (by omega) t.Threshold t.Inner _ (l2 t.Inner 0 rfl) t.Nodes 0 rfl
  ·rw [if_neg (fun h => h2 h.2), q00 h1, q1n (by omega) (by omega), q03 (by omega)]
   simp only [cond_false, cond_true]
 ·rw [if_neg (fun h => h1 h.1), q03 (by omega)]
  simp only [cond_true]
theorem qp9 (xs : List Int) (hl : xs.length < 1152921504606846976) : ∀ (suf : List Int) (i : Nat), xs.drop i = suf →
  ∃ k : Int, z0e xs ((xs.length : Nat) : Int) (i : Int) = some k ∧ leB 0 k = !(suf.all inR)
 | [], i, h => by
  refine ⟨-1, ?_, rfl⟩;apply qvp;rw [q0j h]; rfl
 | y :: suf, i, h => by
  have hlt := q0i h;have h1 : z4w y = some (!inR y) := by
   apply y56;rw [qq0]; rfl
  cases hy : inR y with
  | true =>
   obtain ⟨k, g1, g2⟩ := qp9 xs hl suf (i + 1) (q04 h);refine ⟨k, ?_, by simpa [hy] using g2⟩
   apply qvp;simp only [q0a h, cond_true, q08 h, h1, Option.bind_some, hy, Bool.not_true, cond_false, q02 (show i < 4611686018427387904 by omega)]
   exact g1
  | false =>
   refine ⟨i, ?_, by rw [q0e (by omega)]; simp [hy]⟩
   apply qvp;simp only [q0a h, cond_true, q08 h, h1, Option.bind_some, hy, Bool.not_false]
theorem qj2 (xs : List Int) (hl : xs.length < 1152921504606846976) : z15 xs = some (!(xs.all inR)) := by
 obtain ⟨k, g1, g2⟩ := qp9 xs hl xs 0 rfl;apply y63;rw [y7n _ _ g1];simp only [Option.bind_some, g2]
theorem y3j : ∀ t : Trust, Small t → z4q t = some (lev t) := by
 apply Trust.ind;intro t ih ht;have hn := ht.nodes;have hi := ht.inner;have hs : size t < 1152921504606846976 := ht;rw [q1a] at hs;have l2 : ∀ (suf : List Trust) (i : Nat), t.Inner.drop i = suf → z2x t.Inner ((t.Inner.length : Nat) : Int) (i : Int) t.Threshold t.Nodes t.Inner = some (levs suf) := by
  intro suf;induction suf with
  | nil =>
   intro i h;apply y1s;simp only [q0j h, cond_false, levs]
  | cons y suf ihs =>
   intro i h;have hlt := q0i h;have hy : y ∈ t.Inner := List.mem_of_mem_drop (by rw [h]; exact List.mem_cons_self)
   have h1 := ih y hy (ht.mem hy);apply y1s;simp only [q0a h, cond_true, q08 h, h1, Option.bind_some, levs];by_cases he : lev y = 0
   ·rw [if_pos he, he, q0d, q02 (show i < 4611686018427387904 by omega), ihs (i + 1) (q04 h)]; rfl
   ·rw [if_neg he, q0s he]; rfl
 rw [qu1];apply y8c;by_cases h1 : 1 ≤ t.Threshold
 ·by_cases h2 : t.Threshold ≤ ((t.Nodes.length + t.Inner.length : Nat) : Int)
  ·rw [if_pos ⟨h1, h2⟩, q00 h1, q1n (by omega) (by omega), q00 (by omega), qj2 t.Nodes hn]
   simp only [cond_false, Option.bind_some];cases ha : t.Nodes.all inR with
   | false => rfl
   | true =>
    obtain ⟨v, h3⟩ := y3d t.Nodes hn;rw [h3];simp only [Bool.not_true, cond_false, Option.bind_some, if_true];by_cases h0 : ofE 0 t.Nodes = 0
    ·rw [if_pos h0, h0, q0d]; exact l2 t.Inner 0 rfl
    ·rw [if_neg h0, q0s h0]; rfl
  ·rw [if_neg (fun h => h2 h.2), q00 h1, q1n (by omega) (by omega), q03 (by omega)]
   simp only [cond_false, cond_true]
 ·rw [if_neg (fun h => h1 h.1), q03 (by omega)]
  simp only [cond_true]
def verr (t : Trust) : Int := if depth t ≤ 4 ∧ size t ≤ 200 then lev t else 3
theorem q6w (t : Trust) : verr t = 0 ↔ valid t = true := by
 unfold verr valid;have := qyj t;by_cases h1 : depth t ≤ 4 <;> by_cases h2 : size t ≤ 200 <;> simp [h1, h2, this]
theorem qqw (t : Trust) (ht : Small t) : z36 t = some (verr t) := by
 have hs : size t < 1152921504606846976 := ht;have hd := q50 t;apply qqf;unfold verr;rw [qeo t ht];simp only [Option.bind_some];by_cases h1 : depth t ≤ 4
 ·rw [q00 (by omega), qo2 t ht]
  simp only [cond_false, Option.bind_some];by_cases h2 : size t ≤ 200
  ·rw [q00 (by omega), y2o t ht, if_pos ⟨h1, h2⟩]; rfl
  ·rw [q03 (by omega), if_neg (fun h => h2 h.2)]; rfl
 ·rw [q03 (by omega), if_neg (fun h => h1 h.1)]; rfl
theorem qix (t : Trust) (ht : Small t) : z3t t = some (verr t) := by
 have hs : size t < 1152921504606846976 := ht;have hd := q50 t;apply y7x;unfold verr;rw [qts t ht];simp only [Option.bind_some];by_cases h1 : depth t ≤ 4
 ·rw [q00 (by omega), qyu t ht]
  simp only [cond_false, Option.bind_some];by_cases h2 : size t ≤ 200
  ·rw [q00 (by omega), y3j t ht, if_pos ⟨h1, h2⟩]; rfl
  ·rw [q03 (by omega), if_neg (fun h => h2 h.2)]; rfl
 ·rw [q03 (by omega), if_neg (fun h => h1 h.1)]; rfl
def q7y (t : Trust) : Bool := decide (t.Threshold = 0) && (t.Nodes.isEmpty && t.Inner.isEmpty)
theorem qgj {t : Trust} : q7y t = true ↔ t = blank := by
 obtain ⟨a, b, c⟩ := t;simp [q7y, blank]
theorem qtz {t : Trust} (ht : Small t) : z4c t = some (q7y t) := by
 have hn := ht.nodes;have hi := ht.inner;apply y5s;unfold q7y;by_cases h0 : t.Threshold = 0
 ·rw [h0, q0p];cases hN : t.Nodes with
  | nil =>
   cases hI : t.Inner with
   | nil => rfl
   | cons y r =>
    rw [show eqB (((y :: r).length : Nat) : Int) 0 = false from q0t (by simp; omega)]; rfl
  | cons y r =>
   rw [show eqB (((y :: r).length : Nat) : Int) 0 = false from q0t (by simp; omega)]; rfl
 ·rw [q0t h0, decide_eq_false h0]; rfl
def memE (n : Nat) (m : Member) : Int :=
 if m.Declared = true then (if verr m.Trust = 0 then (if uses m.Trust < 2 ^ n then 0 else 5) else verr m.Trust) else if q7y m.Trust = true then 0 else 1
def memsE (n : Nat) : List Member → Int
 | [] => 0
 | m :: r => if memE n m = 0 then memsE n r else memE n m
def cerr (c : Config) : Int := if c.Members.length ≤ 10 then memsE c.Members.length c.Members else 3
theorem qz2 (ms : List Member) (hl : ms.length ≤ 10) (hs : ∀ m ∈ ms, Small m.Trust) : ∀ (suf : List Member) (i : Nat), ms.drop i = suf →
  z3j ms ((ms.length : Nat) : Int) (i : Int) ms = some (memsE ms.length suf)
 | [], i, h => by
  apply y09;rw [q0j h];rfl
 | m :: suf, i, h => by
  have hlt := q0i h;have hm : m ∈ ms := List.mem_of_mem_drop (by rw [h]; exact List.mem_cons_self)
  have h1 := qz2 ms hl hs suf (i + 1) (q04 h);have hsm := hs m hm;apply y09;rw [q0a h, q08 h];simp only [cond_true, memsE];by_cases hd : m.Declared = true
  ·rw [hd];simp only [Bool.not_true, cond_false];rw [qqw m.Trust hsm];simp only [Option.bind_some];by_cases hv : verr m.Trust = 0
   ·have hu := qio m.Trust;have hp : 2 ^ ms.length ≤ 1024 := Nat.pow_le_pow_right (n := 2) (by decide) hl
    rw [hv, q0d, q0q (by omega), y3h m.Trust hsm, shl1 (by omega) (by omega), Int.toNat_natCast]
    simp only [cond_false, Option.bind_some];by_cases hb : uses m.Trust < 2 ^ ms.length
    ·have hE : memE ms.length m = 0 := by simp [memE, hd, hv, hb]
     rw [q09 (by omega), q02 (by omega), h1, if_pos hE]; rfl
    ·have hE : memE ms.length m = 5 := by simp [memE, hd, hv, hb]
     rw [q0e (by omega), if_neg (by rw [hE]; decide), hE]; rfl
   ·have hE : memE ms.length m = verr m.Trust := by simp [memE, hd, hv]
    rw [q0s hv, if_neg (by rw [hE]; exact hv), hE]; rfl
  ·have hd : m.Declared = false := by simpa using hd
   obtain ⟨r, g1, g2⟩ := y23 m.Trust hsm blank;have hr : r = q7y m.Trust := by rw [Bool.eq_iff_iff, g2, qgj]
   rw [hd];simp only [Bool.not_false, cond_true];rw [show (Trust.mk 0 [] []) = blank from rfl, g1, hr, q02 (by omega), h1]
   simp only [Option.bind_some];cases hb : q7y m.Trust with
   | true =>
    have hE : memE ms.length m = 0 := by simp [memE, hd, hb]
    rw [if_pos hE]; rfl
   | false =>
    have hE : memE ms.length m = 1 := by simp [memE, hd, hb]
    rw [if_neg (by rw [hE]; decide), hE]; rfl
theorem q7a {c : Config} (h : q0l c) : z35 c = some (cerr c) := by
 have := h.1;apply y6h;unfold cerr;by_cases hl : c.Members.length ≤ 10
 ·rw [q00 (by omega), if_pos hl]
  exact qz2 c.Members hl h.2 c.Members 0 rfl
 ·rw [q03 (by omega), if_neg hl]; rfl
theorem pmemE (n : Nat) (hn : n ≤ 10) (m : Member) (hsm : Small m.Trust) : z3u m (n : Int) = some (memE n m) := by
 apply y6g;unfold memE;cases hd : m.Declared with
 | false =>
  simp only [Bool.not_false, cond_true];rw [qtz hsm];cases q7y m.Trust <;> rfl
 | true =>
  simp only [Bool.not_true, cond_false, if_true];rw [qix m.Trust hsm];simp only [Option.bind_some];by_cases hv : verr m.Trust = 0
  ·have hu := qio m.Trust;have hp : 2 ^ n ≤ 1024 := Nat.pow_le_pow_right (n := 2) (by decide) hn
   rw [if_pos hv, hv, q0d, q0q (by omega), qxt m.Trust hsm, shl1 (by omega) (by omega), Int.toNat_natCast]
   simp only [cond_false, Option.bind_some];by_cases hb : uses m.Trust < 2 ^ n
   ·rw [q09 (by omega), if_pos hb]; rfl
   ·rw [q0e (by omega), if_neg hb]; rfl
  ·rw [if_neg hv, q0s hv]; rfl
theorem y06 (ms : List Member) (hl : ms.length ≤ 10) (hs : ∀ m ∈ ms, Small m.Trust) : ∀ (suf : List Member) (i : Nat), ms.drop i = suf →
  z1z ms ((ms.length : Nat) : Int) (i : Int) ms = some (memsE ms.length suf)
 | [], i, h => by
  apply y19;rw [q0j h];rfl
 | m :: suf, i, h => by
  have hlt := q0i h;have hm : m ∈ ms := List.mem_of_mem_drop (by rw [h]; exact List.mem_cons_self)
  have h1 := y06 ms hl hs suf (i + 1) (q04 h);apply y19;rw [q0a h, q08 h, pmemE ms.length hl m (hs m hm)];simp only [cond_true, memsE, Option.bind_some];by_cases he : memE ms.length m = 0
  ·rw [if_pos he, he, q0d, q02 (by omega), h1]; rfl
  ·rw [if_neg he, q0s he]; rfl
theorem qbf {c : Config} (h : q0l c) : z1q c = some (cerr c) := by
 have := h.1;apply y6b;unfold cerr;by_cases hl : c.Members.length ≤ 10
 ·rw [q00 (by omega), if_pos hl]
  exact y06 c.Members hl h.2 c.Members 0 rfl
 ·rw [q03 (by omega), if_neg hl]; rfl
def MemV (n : Nat) (m : Member) : Prop := if m.Declared then valid m.Trust = true ∧ uses m.Trust < 2 ^ n else m.Trust = blank
def ValidC (c : Config) : Prop := c.Members.length ≤ 10 ∧ ∀ m ∈ c.Members, MemV c.Members.length m
theorem qqj {n : Nat} {m : Member} : memE n m = 0 ↔ MemV n m := by
 unfold memE MemV;cases hd : m.Declared with
 | false =>
  simp only [Bool.false_eq_true, if_false];rw [← qgj];cases q7y m.Trust <;> simp
 | true =>
  simp only [if_true];rw [← q6w];by_cases h1 : verr m.Trust = 0 <;> by_cases h2 : uses m.Trust < 2 ^ n <;> simp [h1, h2]
theorem qkx {n : Nat} : ∀ {l : List Member}, memsE n l = 0 ↔ ∀ m ∈ l, MemV n m
 | [] => by simp [memsE]
 | m :: r => by
  have := @qkx n r;by_cases h : memE n m = 0
  ·simp [memsE, h, this, qqj.1 h]
  ·have : ¬ MemV n m := fun h' => h (qqj.2 h')
   simp [memsE, h, this]
theorem q1g {c : Config} : cerr c = 0 ↔ ValidC c := by
 unfold cerr ValidC;by_cases h : c.Members.length ≤ 10 <;> simp [h, qkx]
theorem qex {m : Nat} : ∀ {l : List Int}, (∀ x ∈ l, 0 ≤ x ∧ x < (m : Int)) → usesN l < 2 ^ m
 | [], _ => by simp only [usesN]; exact Nat.two_pow_pos m
 | k :: r, h => by
  simp only [usesN];have hk := h k (by simp)
  refine Nat.or_lt_two_pow ?_ (qex fun x hx => h x (by simp [hx]))
  split
  ·exact Nat.pow_lt_pow_right (a := 2) (by decide) (by omega)
  ·exact Nat.two_pow_pos m
theorem quw {m : Int} {l : List Int} (h : l.all (fun k => decide (0 ≤ k) && decide (k < m)) = true) : ∀ x ∈ l, 0 ≤ x ∧ x < m := by
 intro x hx;have := List.all_eq_true.1 h x hx;simpa using this
theorem qhk {m : Nat} : ∀ t : Trust, below (m : Int) t = true → uses t < 2 ^ m := by
 apply Trust.ind;intro t ih h;rw [qq8, Bool.and_eq_true] at h;rw [q67];refine Nat.or_lt_two_pow (qex (quw h.1)) ?_;have : ∀ l : List Trust, q4b (m : Int) l = true → (∀ x ∈ l, below (m : Int) x = true → uses x < 2 ^ m) → usesL l < 2 ^ m := by
  intro l;induction l with
  | nil => intro _ _; simp only [usesL]; exact Nat.two_pow_pos m
  | cons y r ihr =>
   intro hb hx;simp only [q4b, Bool.and_eq_true] at hb;simp only [usesL];exact Nat.or_lt_two_pow (hx y (by simp) hb.1) (ihr hb.2 fun x hxr => hx x (by simp [hxr]))
 exact this t.Inner h.2 ih
theorem ConfOk.valid {n : Nat} {c : Config} (h : ConfOk n c) (hn : n ≤ 10) : ValidC c := by
 refine ⟨by have := h.le; omega, fun m hm => ?_⟩
 have := h.mem m hm;unfold MemOk at this;unfold MemV;split
 ·rename_i hd;simp only [hd, if_true] at this;exact ⟨this.1, qhk _ this.2⟩
 ·rename_i hd;simpa [hd] using this
end Go.Proofs.YtbmelgbadedbbaaGreat
