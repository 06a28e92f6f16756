/- Laws of the printed functions. -/
import Derived.Test.YtjfhnffdijlboaaGreatP15SegA
import Derived.Test.YtjfhnffdijlboaaGreatP15Seek
import Derived.Test.YtjfhnffdijlboaaGreatP15Fchk
import Derived.Test.YtjfhnffdijlboaaGreatRows
import Derived.ProofKit
import Derived.LaidMore
import Derived.OpenShut
import Derived.Stop.Joined
namespace Go.Proofs.YtjfhnffdijlboaaGreat
open Go Go.Ab Go.Sort
def q1l (u : Nat) : List Nat := (List.range (pc u + 1)).flatMap fun k => pick (fun s => subB s u && (pc s == k)) (u + 1)
theorem q0t {u s : Nat} : s ∈ q1l u ↔ Sub s u := by
 simp only [q1l, List.mem_flatMap, q8m, List.mem_range, beq_iff_eq, aT, q6d];constructor
 ·rintro ⟨k, _, _, h, _⟩; exact h
 ·intro h; exact ⟨pc s, by have := qxu h; omega, by have := qhd h; omega, h, rfl⟩
theorem qrs (p : Nat -> Bool) (n : Nat) : (pick p n).Pairwise (· < ·) := List.Pairwise.sublist List.filter_sublist List.pairwise_lt_range
theorem q2x (u : Nat) : (q1l u).Pairwise nlt := by
 unfold q1l;rw [List.pairwise_flatMap];constructor
 ·intro k _;refine (qrs _ _).imp_of_mem ?_;intro a b ha hb hab;have h1 := (q8m.1 ha).2;have h2 := (q8m.1 hb).2;simp only [aT, beq_iff_eq] at h1 h2;exact .inr ⟨by omega, hab⟩
 ·refine List.pairwise_lt_range.imp ?_;intro a b hab x hx y hy;have h1 := (q8m.1 hx).2;have h2 := (q8m.1 hy).2;simp only [aT, beq_iff_eq] at h1 h2;exact .inl (by omega)
theorem q4v {u : Nat} (hu : u < 1024) : (q1l u).length <= 1024 := y4d (q2x u) fun _s hs => (q0t.1 hs).lt hu
theorem q1r {n u : Nat} : u < 2 ^ n ↔ Sub u (2 ^ n - 1) := by
 constructor
 ·intro h i hi;rw [Nat.testBit_two_pow_sub_one, dT'];refine Nat.lt_of_not_le fun hle => ?_
  have := Nat.ge_two_pow_of_testBit hi;have := Nat.pow_le_pow_right (n := 2) (by decide) hle;omega
 ·intro h;have := qhd h;have := Nat.two_pow_pos n;omega
theorem qdo : ∀ j, j <= 10 -> pc (2 ^ j - 1) = j := by
 have h : ∀ j, j < 11 -> pc (2 ^ j - 1) = j := by decide
 exact fun j hj => h j (by omega)
theorem qhl {u : Nat} (hu : u < 1024) : z52 (u : Int) = some ((q1l u).map Int.ofNat) := by
 have hlen := qfg (fun s => subB s u) (u + 1);obtain ⟨zs, h1, h2, h3⟩ := qzq (pick (fun s => subB s u) (u + 1)) (by omega) fun s hs => by have := (q8m.1 hs).1; omega
 have hnd : zs.Nodup := h2.nodup_iff.2 ((qrs _ _).imp fun h => by omega);have ho : zs.Pairwise nlt := by
  refine (h3.and hnd).imp ?_;intro a b h;rcases qun a b with h' | h' | h'
  ·exact h'
  ·exact absurd h' h.2
  ·exact absurd h' h.1
 have he : zs = q1l u := qda ho (q2x u) fun s => by
  rw [h2.mem_iff, q8m, q6d, q0t];exact ⟨fun h => h.2, fun h => ⟨by have := qhd h; omega, h⟩⟩
 apply yau;have := qil hu h1 (u + 1) 0 (by omega);rw [he] at this;simpa [pick] using this
theorem qw2 {u : Nat} (hu : u < 1024) {k : Nat} (hk : k <= 10) {acc : List Nat} (ha : acc.length <= 20000) {r : List Int}
  (hr : z2z (u : Int) ((acc ++ pick (fun s => subB s u && (pc s == k)) (u + 1)).map Int.ofNat) ((k + 1 : Nat) : Int) = some r) : ∀ (j i : Nat), i + j = u + 1 ->
  z2h (u : Int) ((acc ++ pick (fun s => subB s u && (pc s == k)) i).map Int.ofNat) (k : Int) (i : Int) = some r
 | 0, i, h => by
  have : i = u + 1 := by omega
  subst this;apply y0f;rw [q09 (by omega)];simp only [cF];rw [q01 (by omega)];exact hr
 | j + 1, i, h => by
  have ih := qw2 hu hk ha hr j (i + 1) (by omega);have hlen := qfg (fun s => subB s u && (pc s == k)) i;have hp := pc_le i;rw [qmg] at ih;apply y0f;rw [q0d (by omega), q24 (by omega) (by omega), q01 (by omega)];simp only [cT];by_cases h1 : i &&& u = i
  ·have hs : subB i u = true := q6d.2 (qdb.2 h1);rw [h1, q0k];simp only [cT];rw [qk5 (s := i) (by omega)];simp only [bS];by_cases h2 : pc i = k
   ·rw [h2, q0k];simp only [cT];rw [if_pos (by simp [hs, h2]), <- List.append_assoc, List.map_append (l₂ := [i])] at ih;rw [q06 (by simp [q0f]; omega)];exact ih
   ·rw [q0r (by omega)];simp only [cF];rw [if_neg (by simp [h2])] at ih;exact ih
  ·have hs : subB i u = false := by
    cases hb : subB i u with
    | false => rfl
    | true => exact absurd (qdb.1 (q6d.1 hb)) h1
   rw [q0r (by omega)];simp only [cF];rw [if_neg (by simp [hs])] at ih;exact ih
def ordTo (u k : Nat) : List Nat := (List.range k).flatMap fun k => pick (fun s => subB s u && (pc s == k)) (u + 1)
theorem qj4 (u k : Nat) : ordTo u (k + 1) = ordTo u k ++ pick (fun s => subB s u && (pc s == k)) (u + 1) := by simp [ordTo, List.range_succ]
theorem qn6 (u : Nat) : ∀ k, (ordTo u k).length <= k * (u + 1)
 | 0 => by simp [ordTo]
 | k + 1 => by
  have := qn6 u k;have := qfg (fun s => subB s u && (pc s == k)) (u + 1);rw [qj4, List.length_append, Nat.succ_mul];omega
theorem qus {u : Nat} (hu : u < 1024) : ∀ (j k : Nat), k + j = pc u + 1 -> z2z (u : Int) ((ordTo u k).map Int.ofNat) (k : Int) = some ((q1l u).map Int.ofNat)
 | 0, k, h => by
  apply y0y;rw [qk5 hu];simp only [bS];rw [q09 (by omega)];rw [h.symm.trans (Nat.add_zero k) |>.symm];rfl
 | j + 1, k, h => by
  have hp := pc_le u;have ih := qus hu j (k + 1) (by omega);rw [qj4] at ih;have hl := qn6 u k;have hk : k * (u + 1) <= 10 * 1024 := Nat.mul_le_mul (by omega) (by omega);apply y0y;rw [qk5 hu];simp only [bS];rw [q0d (by omega), qgt, q90 hu];simp only [cT, bS];have := qw2 hu (k := k) (by omega) (acc := ordTo u k) (by omega) ih (u + 1) 0 (by omega);simpa [pick] using this
theorem qbh {u : Nat} (hu : u < 1024) : z57 (u : Int) = some ((q1l u).map Int.ofNat) := by
 apply y9i;exact qus hu (pc u + 1) 0 (by omega)
theorem qqf {a : Nat} (h : 1 <= a) (ha : a < 4611686018427387904) : subI .i64 (a : Int) 1 = ((a - 1 : Nat) : Int) := qcn (b := 1) h ha
theorem qih {n s : Nat} (h : s < 2 ^ n) : ndiff (2 ^ n - 1) s = 2 ^ n - 1 - s := by
 apply Nat.eq_of_testBit_eq;intro i;rw [show 2 ^ n - 1 - s = 2 ^ n - (s + 1) from by omega, Nat.testBit_two_pow_sub_succ h, q04, Nat.testBit_two_pow_sub_one]
theorem q9s {s n : Nat} (hn : n <= 10) : z2l (s : Int) (n : Int) = some (decide (s < 2 ^ n)) := by
 apply qvp;rw [q0d (by omega), q0m (by omega), shl1 (by omega) (by omega), tN];simp only [cT];by_cases h : s < 2 ^ n
 ·rw [q02 (by omega), decide_eq_true h]
 ·rw [q00 (by omega), decide_eq_false h]
theorem qpr {n : Nat} (hn : n <= 10) {s : Nat} (hs : s < 2 ^ n) : ∀ (k t : Nat), t + k = 2 ^ n -> s < t -> (∀ u, s < u -> u < t -> pc u ≠ pc s) ->
  ∃ (t' : Nat) (b : Bool), z2v (n : Int) ((pc s : Nat) : Int) (t : Int) = some ((t' : Int), b) /\
   (b = true -> t' < 2 ^ n /\ nlt s t' /\ ∀ u, u < 2 ^ n -> nlt s u -> u = t' \/ nlt t' u) /\ (b = false -> ∀ u, u < 2 ^ n -> ¬ nlt s u)
 | 0, t, h, ht, hno => by
  have hp := pow10 hn;have hle : ∀ {j u : Nat}, j <= 10 -> u < 2 ^ j -> pc u <= j := fun hj hu => by
   have := qxu (q1r.1 hu)
   rwa [qdo _ hj] at this
  have hps := hle hn hs;by_cases he : pc s = n
  ·refine ⟨0, false, ?_, by simp, fun _ u hu hlt => ?_⟩
   ·apply qrp;rw [q9s hn, decide_eq_false (by omega), he, q0k];rfl
   ·have := hle hn hu;rcases hlt with h1 | ⟨h1, h2⟩
    ·omega
    ·exact hno u h2 (by omega) h1.symm
  ·refine ⟨2 ^ (pc s + 1) - 1, true, ?_, fun _ => ⟨?_, ?_, fun u hu hlt => ?_⟩, by simp⟩
   ·have hp1 := Nat.two_pow_pos (pc s + 1);have hp2 : 2 ^ (pc s + 1) <= 1024 := pow10 (by omega);apply qrp;rw [q9s hn, decide_eq_false (by omega), q0r (by omega)];simp only [bS, cF];rw [q01 (by omega), q0m (by omega), shl1 (by omega) (by omega), tN, qqf (by omega) (by omega)]
   ·have : 2 ^ (pc s + 1) <= 2 ^ n := Nat.pow_le_pow_right (by decide) (by omega);have := Nat.two_pow_pos (pc s + 1);omega
   ·exact .inl (by rw [qdo _ (by omega)]; omega)
   ·have h1 : pc s < pc u := by
     rcases hlt with h1 | ⟨h1, h2⟩
     ·exact h1
     ·exact absurd h1.symm (hno u h2 (by omega))
    by_cases h2 : pc u = pc s + 1
    ·have hge : 2 ^ (pc s + 1) - 1 <= u := by
      refine Nat.le_of_not_lt fun hlt' => ?_
      have hsub : Sub u (2 ^ (pc s + 1) - 1) := q1r.1 (by omega);have hp2 : 2 ^ (pc s + 1) <= 1024 := pow10 (by omega);have := qld (by omega) (by omega) hsub (by rw [qdo _ (by omega)]; exact h2);omega
     rcases Nat.eq_or_lt_of_le hge with e | hlt'
     ·exact .inl e.symm
     ·exact .inr (.inr ⟨by rw [qdo _ (by omega)]; exact h2.symm, hlt'⟩)
    ·exact .inr (.inl (by rw [qdo _ (by omega)]; omega))
 | k + 1, t, h, ht, hno => by
  have hp := pow10 hn;by_cases he : pc t = pc s
  ·refine ⟨t, true, ?_, fun _ => ⟨by omega, .inr ⟨he.symm, ht⟩, fun u hu hlt => ?_⟩, by simp⟩
   ·apply qrp;rw [q9s hn, decide_eq_true (by omega), qfa (by omega)];simp only [bS, cT];rw [he, q0k];rfl
   ·rcases hlt with h1 | ⟨h1, h2⟩
    ·exact .inr (.inl (by omega))
    ·rcases Nat.lt_trichotomy u t with h3 | h3 | h3
     ·exact absurd h1.symm (hno u h2 h3)
     ·exact .inl h3
     ·exact .inr (.inr ⟨by omega, h3⟩)
  ·obtain ⟨t', b, g1, g2, g3⟩ := qpr hn hs k (t + 1) (by omega) (by omega) fun u h1 h2 => by
    by_cases e : u = t
    ·rw [e]; exact he
    ·exact hno u h1 (by omega)
   refine ⟨t', b, ?_, g2, g3⟩;apply qrp;rw [q9s hn, decide_eq_true (by omega), qfa (by omega)];simp only [bS, cT];rw [q0r (by omega), q01 (by omega)];exact g1
theorem qf5 {n : Nat} (hn : n <= 10) {s : Nat} (hs : s < 2 ^ n) : ∃ (t' : Nat) (b : Bool), z5x (s : Int) (n : Int) = some ((t' : Int), b) /\
   (b = true -> t' < 2 ^ n /\ nlt s t' /\ ∀ u, u < 2 ^ n -> nlt s u -> u = t' \/ nlt t' u) /\ (b = false -> ∀ u, u < 2 ^ n -> ¬ nlt s u) := by
 have hp := pow10 hn;obtain ⟨t', b, g1, g2, g3⟩ := qpr hn hs (2 ^ n - (s + 1)) (s + 1) (by omega) (by omega) fun u h1 h2 => by omega
 refine ⟨t', b, ?_, g2, g3⟩;apply y88;rw [q00 (by omega), q00 (by omega), q9s hn, decide_eq_true hs];simp only [cF, bS, nT];rw [qfa (by omega)];simp only [bS];rw [q01 (by omega)];exact g1
def aptB (c : Config) (s : Nat) : Bool := quoB c s && (q27 c (ndiff (2 ^ c.Members.length - 1) s) != 0)
def aptR (c : Config) : Option Nat -> Nat × Nat
 | some s => (s, q27 c (ndiff (2 ^ c.Members.length - 1) s))
 | none => (0, 0)
def apart (c : Config) : Nat × Nat := aptR c ((q1l (2 ^ c.Members.length - 1)).find? (aptB c))
def pairI (p : Nat × Nat) : Int × Int := (p.1, p.2)
theorem q2r {n : Nat} (hn : n <= 10) : subI .i64 (shlI .i64 1 ((n : Nat) : Int)) 1 = ((2 ^ n - 1 : Nat) : Int) := by
 have hp := pow10 hn;have hp1 := Nat.two_pow_pos n;rw [shl1 (by omega) (by omega), tN, qqf (by omega) (by omega)]
theorem y4o {c : Config} (hc : q0e c) (hn : c.Members.length <= 10) : ∀ (suf pre : List Nat) (s : Nat), q1l (2 ^ c.Members.length - 1) = pre ++ s :: suf ->
  z1d ((c.Members.length : Nat) : Int) (s : Int) true c.Members = some (pairI (aptR c ((s :: suf).find? (aptB c)))) := by
 have hp := pow10 hn;have hp1 := Nat.two_pow_pos c.Members.length;intro suf;induction suf with
 | nil =>
  intro pre s e;have hord := q2x (2 ^ c.Members.length - 1);have hs : s < 2 ^ c.Members.length := q1r.2 (q0t.1 (by rw [e]; simp));obtain ⟨t', b, g1, g2, g3⟩ := qf5 hn hs;have hb : b = false := by
   cases b with
   | false => rfl
   | true =>
    obtain ⟨h1, h2, _⟩ := g2 rfl;have hm : t' ∈ q1l (2 ^ c.Members.length - 1) := q0t.2 (q1r.1 h1);rw [e] at hm hord;rw [List.pairwise_append] at hord;rcases List.mem_append.1 hm with h | h
    ·exact absurd (q5y h2 (hord.2.2 t' h s (by simp))) (q1f _)
    ·simp at h; subst h; exact absurd h2 (q1f _)
  subst hb;have hnext : z1d ((c.Members.length : Nat) : Int) (t' : Int) false c.Members = some (0, 0) := by
   apply qvv; rfl
  have hlt : ndiff (2 ^ c.Members.length - 1) s < 1024 := q20 (by omega);apply qvv;rw [show Config.mk c.Members = c from rfl, qaj (by omega) hc];simp only [cT, bS];cases hq : quoB c s with
  | false =>
   simp only [Bool.not_false, cT];rw [g1];simp only [bS];rw [hnext];simp [aptB, hq, aptR, pairI]
  | true =>
   have hm : z2g c = some ((2 ^ c.Members.length - 1 : Nat) : Int) := by
    apply y1z;rw [q0m (by omega), q2r hn]
   simp only [nT, cF];rw [hm];simp only [bS];rw [q12 (by omega) (by omega), qdw hlt hc];simp only [bS, qp2];cases hg : (q27 c (ndiff (2 ^ c.Members.length - 1) s) != 0) with
   | false =>
    simp only [cF];rw [g1];simp only [bS];rw [hnext];have : aptB c s = false := by simp only [aptB, hq, hg]; rfl
    simp [this, aptR, pairI]
   | true =>
    simp only [cT];have : aptB c s = true := by simp only [aptB, hq, hg]; rfl
    simp [this, aptR, pairI]
 | cons v suf ih =>
  intro pre s e;have hord := q2x (2 ^ c.Members.length - 1);have hs : s < 2 ^ c.Members.length := q1r.2 (q0t.1 (by rw [e]; simp));have hv : v < 2 ^ c.Members.length := q1r.2 (q0t.1 (by rw [e]; simp));obtain ⟨t', b, g1, g2, g3⟩ := qf5 hn hs;rw [e, List.pairwise_append, List.pairwise_cons, List.pairwise_cons] at hord;have hsv := hord.2.1.1 v (by simp);have hb : b = true := by
   cases b with
   | true => rfl
   | false => exact absurd hsv (g3 rfl v hv)
  subst hb;obtain ⟨h1, h2, h3⟩ := g2 rfl;have ht : t' = v := by
   rcases h3 v hv hsv with h | h
   ·exact h.symm
   ·have hm : t' ∈ q1l (2 ^ c.Members.length - 1) := q0t.2 (q1r.1 h1);rw [e] at hm;rcases List.mem_append.1 hm with h' | h'
    ·exact absurd (q5y h2 (hord.2.2 t' h' s (by simp))) (q1f _)
    ·rcases List.mem_cons.1 h' with h'' | h''
     ·subst h''; exact absurd h2 (q1f _)
     ·rcases List.mem_cons.1 h'' with h4 | h4
      ·exact h4
      ·exact absurd (q5y h (hord.2.1.2.1 t' h4)) (q1f _)
  subst ht;have hnext := ih (pre ++ [s]) t' (by rw [e]; simp);have hlt : ndiff (2 ^ c.Members.length - 1) s < 1024 := q20 (by omega);apply qvv;rw [show Config.mk c.Members = c from rfl, qaj (by omega) hc];simp only [cT, bS];cases hq : quoB c s with
  | false =>
   simp only [Bool.not_false, cT];rw [g1];simp only [bS];rw [hnext, List.find?_cons (a := s)];simp [aptB, hq]
  | true =>
   have hm : z2g c = some ((2 ^ c.Members.length - 1 : Nat) : Int) := by
    apply y1z;rw [q0m (by omega), q2r hn]
   simp only [nT, cF];rw [hm];simp only [bS];rw [q12 (by omega) (by omega), qdw hlt hc];simp only [bS, qp2];cases hg : (q27 c (ndiff (2 ^ c.Members.length - 1) s) != 0) with
   | false =>
    simp only [cF];rw [g1];simp only [bS];have : aptB c s = false := by simp only [aptB, hq, hg]; rfl
    rw [hnext, List.find?_cons (a := s), this]
   | true =>
    simp only [cT];have : aptB c s = true := by simp only [aptB, hq, hg]; rfl
    rw [List.find?_cons (a := s), this]; rfl
theorem qh1 (u : Nat) : ∃ suf, q1l u = 0 :: suf := by
 have h0 : (0 : Nat) ∈ q1l u := q0t.2 fun i hi => by simp at hi
 cases h : q1l u with
 | nil => rw [h] at h0; cases h0
 | cons a suf =>
  have ho := q2x u;rw [h] at h0 ho;rcases List.mem_cons.1 h0 with e | hm
  ·exact ⟨suf, by rw [e]⟩
  ·have := (List.pairwise_cons.1 ho).1 0 hm;have h1 : pc 0 = 0 := by decide
   rcases this with h2 | ⟨_, h2⟩ <;> omega
theorem qpw {c : Config} (hc : q0e c) (hn : c.Members.length <= 10) : z4g c = some (pairI (apart c)) := by
 obtain ⟨suf, h⟩ := qh1 (2 ^ c.Members.length - 1);apply y9w;have := y4o hc hn suf [] 0 h;rw [<- h] at this;exact this
theorem qmk {c : Config} (hc : q0e c) (hn : c.Members.length <= 10) {l : List Nat} (hl : l.length <= 1024) (hm : ∀ s ∈ l, s < 2 ^ c.Members.length) : ∀ (suf : List Nat) (i : Nat), l.drop i = suf ->
  z3x (l.map Int.ofNat) ((l.length : Nat) : Int) (i : Int) c.Members = some (pairI (aptR c (suf.find? (aptB c))))
 | [], i, h => by
  apply y3q;rw [q0j h]; rfl
 | s :: suf, i, h => by
  have hp := pow10 hn;have hp1 := Nat.two_pow_pos c.Members.length;have hlt := q0g h;have hs := hm s (List.mem_of_mem_drop (by rw [h]; exact List.mem_cons_self));have ih := qmk hc hn hl hm suf (i + 1) (q03 h);have hd : ndiff (2 ^ c.Members.length - 1) s = 2 ^ c.Members.length - 1 - s := by
   exact qih hs
  have hlt' : ndiff (2 ^ c.Members.length - 1) s < 1024 := q20 (by omega);apply y3q;rw [q08 h];simp only [cT, q05 (q0u h)];rw [show Config.mk c.Members = c from rfl, qd3 (by omega) hc, q01 (by omega), ih];simp only [bS];rw [List.find?_cons];cases hq : quoB c s with
  | false => simp [aptB, hq]
  | true =>
   have hmm : z4j c = some ((2 ^ c.Members.length - 1 : Nat) : Int) := by
    apply y31;rw [q0m (by omega), q2r hn]
   simp only [nT, cF];rw [hmm];simp only [bS];rw [qcn (by omega) (by omega), <- hd, qp5 hlt' hc];simp only [bS, qp2];cases hg : (q27 c (ndiff (2 ^ c.Members.length - 1) s) != 0) with
   | false =>
    have : aptB c s = false := by simp only [aptB, hq, hg]; rfl
    rw [this]; rfl
   | true =>
    have : aptB c s = true := by simp only [aptB, hq, hg]; rfl
    rw [this]; rfl
theorem qmn {c : Config} (hc : q0e c) (hn : c.Members.length <= 10) : z6n c = some (pairI (apart c)) := by
 have hp := pow10 hn;have hp1 := Nat.two_pow_pos c.Members.length;apply y78;have hmm : z4j c = some ((2 ^ c.Members.length - 1 : Nat) : Int) := by
  apply y31;rw [q0m (by omega), q2r hn]
 rw [hmm];simp only [bS];rw [qbh (by omega)];simp only [bS, List.length_map];exact qmk hc hn (q4v (by omega)) (fun s hs => q1r.2 (q0t.1 hs)) _ 0 rfl
theorem apart_spec {c : Config} (hn : c.Members.length <= 10) : ((apart c).1 = 0 /\ (apart c).2 = 0 /\ ∀ a b, q2b c a -> q2b c b -> a &&& b = 0 -> False) \/
  (q2b c (apart c).1 /\ q2b c (apart c).2 /\ (apart c).1 &&& (apart c).2 = 0 /\ (apart c).1 ≠ 0) := by
 have hp := pow10 hn;have hp1 := Nat.two_pow_pos c.Members.length;unfold apart;cases h : (q1l (2 ^ c.Members.length - 1)).find? (aptB c) with
 | none =>
  refine .inl ⟨rfl, rfl, fun a b ha hb hab => ?_⟩;have hla : a < 2 ^ c.Members.length := Nat.lt_of_le_of_lt (qhd ha.2.1) (q8z hn);have hlb : b < 2 ^ c.Members.length := Nat.lt_of_le_of_lt (qhd hb.2.1) (q8z hn);have hno := List.find?_eq_none.1 h a (q0t.2 (q1r.1 hla));apply hno;have hqa := (qbw (by omega)).2 ha;have hlt : ndiff (2 ^ c.Members.length - 1) a < 1024 := q20 (by omega);have hsub : Sub b (ndiff (2 ^ c.Members.length - 1) a) := fun i hi => by
   rw [q04, q1r.1 hlb i hi];cases hai : a.testBit i with
   | false => rfl
   | true =>
    have : (a &&& b).testBit i = true := by rw [Nat.testBit_and, hai, hi]; rfl
    rw [hab] at this; simp at this
  have hg := qne c hlt hb hsub;have : q27 c (ndiff (2 ^ c.Members.length - 1) a) ≠ 0 := fun h0 => by
   rw [h0] at hg;have := qhd hg;exact hb.1 (by omega)
  simp [aptB, hqa, this]
 | some s =>
  have h1 := List.find?_some h;have h2 := q1r.2 (q0t.1 (List.mem_of_find?_eq_some h));simp only [aptB, aT, bne_iff_ne] at h1;have hlt : ndiff (2 ^ c.Members.length - 1) s < 1024 := q20 (by omega);have hQ := (qbw (by omega)).1 h1.1;refine .inr ⟨hQ, qgp c hlt h1.2, ?_, hQ.1⟩;apply Nat.eq_of_testBit_eq;intro i;show (s &&& q27 c (ndiff (2 ^ c.Members.length - 1) s)).testBit i = _;rw [Nat.testBit_and, Nat.zero_testBit];cases hsi : s.testBit i with
  | false => rfl
  | true =>
   cases hgi : (q27 c (ndiff (2 ^ c.Members.length - 1) s)).testBit i with
   | false => rfl
   | true =>
    have := (q9x c hlt).trans (Sub.and_left _ _) i hgi;rw [q04, hsi] at this;simp at this
def twoB (c : Config) : Bool := (apart c).1 != 0
theorem qzf {c : Config} (hn : c.Members.length <= 10) : twoB c = true ↔ ∃ a b, q2b c a /\ q2b c b /\ a &&& b = 0 := by
 simp only [twoB, bne_iff_ne];rcases apart_spec hn with ⟨h1, _, h2⟩ | ⟨h1, h2, h3, h4⟩
 ·exact ⟨fun h => absurd h1 h, fun ⟨a, b, ha, hb, hab⟩ => absurd (h2 a b ha hb hab) id⟩
 ·exact ⟨fun _ => ⟨_, _, h1, h2, h3⟩, fun _ => h4⟩
theorem qwy {c : Config} (hc : q0e c) (he : cerr c = 0) : z50 c = some (!twoB c, 0) := by
 apply y9z;rw [qcg hc, he];simp only [bS, q0b, cF];rw [qpw hc (q1p.1 he).1];simp only [bS, pairI, q4t, twoB];congr 2
 cases h : ((apart c).1 == 0) <;> simp_all
theorem qv0 {c : Config} (hc : q0e c) (he : cerr c = 0) : z74 c = some (!twoB c, 0) := by
 apply y60;rw [q8e hc, he];simp only [bS, q0b, cF];rw [qmn hc (q1p.1 he).1];simp only [bS, pairI, q4t, twoB];congr 2
 cases h : ((apart c).1 == 0) <;> simp_all
def disjR (c : Config) : Int × Int × Int := if twoB c then (((apart c).1 : Int), ((apart c).2 : Int), 0) else (0, 0, 11)
theorem qek {c : Config} (hc : q0e c) (he : cerr c = 0) : z2w c = some (disjR c) := by
 apply y8e;rw [qcg hc, he];simp only [bS, q0b, cF];rw [qpw hc (q1p.1 he).1];simp only [bS, pairI, q4t, twoB, disjR];by_cases h : (apart c).1 = 0
 ·simp [h]
 ·rw [show ((apart c).1 == 0) = false by simp [h]];simp [h]
theorem qej {c : Config} (hc : q0e c) (he : cerr c = 0) : z5t c = some (disjR c) := by
 apply y6c;rw [q8e hc, he];simp only [bS, q0b, cF];rw [qmn hc (q1p.1 he).1];simp only [bS, pairI, q4t, twoB, disjR];by_cases h : (apart c).1 = 0
 ·simp [h]
 ·rw [show ((apart c).1 == 0) = false by simp [h]];simp [h]
theorem qee (s : Nat) : ∀ n i, q0w s n i = ((List.range' i n).filter fun j => s.testBit j)
 | 0, i => by simp [q0w]
 | n + 1, i => by
  simp only [q0w, List.range'_succ, List.filter_cons, qee s n (i + 1)]
theorem qg0 (s : Nat) : nodes s = (List.range 10).filter fun i => s.testBit i := by
 rw [nodes, qee, List.range_eq_range']
theorem y4p {k s : Nat} (hs : s < 1024) : (((List.range 10).filter fun i => s.testBit i).length == k) = (subB s 1023 && (pc s == k)) := by
 have h1 : subB s 1023 = true := q6d.2 (q1r.1 (show s < 2 ^ 10 from hs));rw [h1, tA, pc, qg0]
theorem q69 : setOrder = (q1l 1023).map Int.ofNat := by
 have key : ((List.range 11).flatMap fun k => (List.range 1024).filter fun s => ((List.range 10).filter fun i => s.testBit i).length == k) = q1l 1023 := by
  have h10 : pc 1023 = 10 := qdo 10 (by decide);unfold q1l pick;rw [h10];apply congrArg (fun f => List.flatMap f (List.range 11));funext k
  apply List.filter_congr;intro s hs;exact y4p (List.mem_range.1 hs)
 rw [<- key];rfl
theorem qi8 : setOrder.Nodup := by
 rw [q69];refine List.Pairwise.map _ (fun a b h => ?_) (q2x 1023);intro e;have e' : a = b := Int.ofNat.inj e;rw [e'] at h;exact q1f _ h
theorem ql3 : ∃ r, setOrder = 0 :: r := by
 obtain ⟨suf, h⟩ := qh1 1023;exact ⟨suf.map Int.ofNat, by rw [q69, h]; rfl⟩
theorem y4j : qk7 env := by
 intro f nx xs h;obtain ⟨r, hr⟩ := ql3;have hd := qi8;rw [hr] at hd;have h' : (if List.contains [127] f then some (120, setOrder) else none) = some (nx, xs) := h;split at h'
 ·rename_i hf;cases h';have : f = 127 := by simpa using hf
  subst this;exact ⟨fun _ => rfl, by rw [hr]; exact qsx hd⟩
 ·cases h'
theorem qmd : ∀ (suf pre : List Nat), q1l 1023 = pre ++ suf -> qrc (fun x => z5x x 10) (suf.map Int.ofNat)
 | [], _, _ => trivial
 | [s], pre, e => by
  have hord := q2x 1023;have hs : s < 2 ^ 10 := q1r.2 (q0t.1 (by rw [e]; simp));obtain ⟨t', b, g1, g2, g3⟩ := qf5 (n := 10) (by decide) hs;cases b with
  | false => exact ⟨_, g1⟩
  | true =>
   obtain ⟨h1, h2, _⟩ := g2 rfl;have hm : t' ∈ q1l 1023 := q0t.2 (q1r.1 h1);rw [e] at hm hord;rw [List.pairwise_append] at hord;rcases List.mem_append.1 hm with h | h
   ·exact absurd (q5y h2 (hord.2.2 t' h s (by simp))) (q1f _)
   ·simp at h; subst h; exact absurd h2 (q1f _)
 | s :: t :: suf, pre, e => by
  have hord := q2x 1023;have hs : s < 2 ^ 10 := q1r.2 (q0t.1 (by rw [e]; simp));have ht : t < 2 ^ 10 := q1r.2 (q0t.1 (by rw [e]; simp));have hst : nlt s t := by
   rw [e, List.pairwise_append, List.pairwise_cons] at hord;exact hord.2.1.1 t (by simp)
  obtain ⟨t', b, g1, g2, g3⟩ := qf5 (n := 10) (by decide) hs;refine ⟨?_, qmd (t :: suf) (pre ++ [s]) (by rw [e]; simp)⟩;cases b with
  | false => exact absurd hst (g3 rfl t ht)
  | true =>
   obtain ⟨h1, h2, h3⟩ := g2 rfl;rcases h3 t ht hst with h | h
   ·subst h; exact g1
   ·exfalso;have hm : t' ∈ q1l 1023 := q0t.2 (q1r.1 h1);rw [e] at hm hord;rw [List.pairwise_append, List.pairwise_cons, List.pairwise_cons] at hord;rcases List.mem_append.1 hm with hm | hm
    ·exact q1f _ (q5y h2 (hord.2.2 t' hm s (by simp)))
    ·rcases List.mem_cons.1 hm with hm | hm
     ·subst hm; exact q1f _ h2
     ·rcases List.mem_cons.1 hm with hm | hm
      ·subst hm; exact q1f _ h
      ·exact q1f _ (q5y h (hord.2.1.2.1 t' hm))
def qw0 : Option Nat -> Int × Bool
 | some s => (s, true)
 | none => (0, false)
set_option maxRecDepth 100000 in
theorem qut {a b : Trust} (ha : Small a) (hb : Small b) : z66 a.Threshold a.Nodes a.Inner b.Threshold b.Nodes b.Inner =
  some ((qw0 ((q1l 1023).find? fun s => sat s a && !sat s b)).1, (qw0 ((q1l 1023).find? fun s => sat s a && !sat s b)).2, a.Threshold, a.Nodes, a.Inner, b.Threshold, b.Nodes, b.Inner) := by
 refine qsk (T := tn) (nx := 120) (xs := setOrder) sigOk (by kernel_rfl) (by kernel_rfl) (by kernel_rfl) (by have := qmd (q1l 1023) [] rfl; rw [<- q69] at this; exact this) (p := fun z => sat z.toNat a && !sat z.toNat b) (oc := ⟨[.lf .b], [[.lf (.i .i64), .lf (.l .i64), .lf (.l .Trust)], [.lf (.i .i64), .lf (.l .i64), .lf (.l .Trust)]]⟩)
  (fun z hz => ?_) ?_ rfl
 ·rw [q69] at hz;obtain ⟨s, hs, rfl⟩ := List.mem_map.1 hz;have hlt : s < 1024 := by
   have : s < 2 ^ 10 := q1r.2 (q0t.1 hs);omega
  refine ⟨(sat s a && !sat s b, a.Threshold, a.Nodes, a.Inner, b.Threshold, b.Nodes, b.Inner), ?_, rfl, rfl⟩;show z6i (Int.ofNat s) a.Threshold a.Nodes a.Inner b.Threshold b.Nodes b.Inner = _;apply y97;rw [show Int.ofNat s = ((s : Nat) : Int) from rfl, show Trust.mk a.Threshold a.Nodes a.Inner = a by cases a; rfl, show Trust.mk b.Threshold b.Nodes b.Inner = b by cases b; rfl, q3l hlt a ha, q3l hlt b hb];cases sat s a <;> rfl
 ·rw [q69];have : ((q1l 1023).map Int.ofNat).find? (fun z => sat z.toNat a && !sat z.toNat b) = ((q1l 1023).find? fun s => sat s a && !sat s b).map Int.ofNat := by
   rw [List.find?_map]; rfl
  rw [this];cases (q1l 1023).find? fun s => sat s a && !sat s b <;> rfl
def impB (a b : Trust) : Bool := ((q1l 1023).find? fun s => sat s a && !sat s b).isNone
theorem qzj {a b : Trust} : impB a b = true ↔ ∀ s, s < 1024 -> sat s a = true -> sat s b = true := by
 simp only [impB, Option.isNone_iff_eq_none, List.find?_eq_none, aT, Bool.not_eq_true', not_and, Bool.not_eq_false];constructor
 ·intro h s hs; exact h s (q0t.2 (q1r.1 (by omega : s < 2 ^ 10)))
 ·intro h s hs; exact h s (by have : s < 2 ^ 10 := q1r.2 (q0t.1 hs); omega)
theorem qt8 {a b : Trust} (ha : valid a = true) (hb : valid b = true) : ∃ z, z6e a b = some (impB a b, z, 0) := by
 have h1 := q3e ha;have h2 := q3e hb;refine ⟨(qw0 ((q1l 1023).find? fun s => sat s a && !sat s b)).1, ?_⟩;apply y72;have hv : z6w a b = some 0 := by
  apply y8g;rw [ql0 a h1, (q74 a).2 ha];simp only [bS, q0b, cF];rw [ql0 b h2, (q74 b).2 hb];rfl
 rw [hv];simp only [bS, q0b, cF];rw [qut h1 h2];simp only [bS, impB];cases (q1l 1023).find? fun s => sat s a && !sat s b <;> rfl
end Go.Proofs.YtjfhnffdijlboaaGreat
namespace Go.Proofs.YtjfhnffdijlboaaGreat
open Go Go.Ab
theorem y5e : qjv env (qa0 an) := by
 intro h hok;have hlt : h < lastF + 1 := by
  have : okF h = true := hok;simp only [okF, aT, dT'] at this;omega
 have h1 := List.all_eq_true.1 qjq h (List.mem_range.2 hlt);have hok' : okF h = true := hok;rw [hok', nT, Bool.false_or] at h1;unfold qx9 at h1;cases hf : Tryz.prog.funcs[h]? with
 | none => simp [hf] at h1
 | some fn =>
  cases hb : fn.body with
  | none => simp [hf, hb] at h1
  | some c =>
   simp only [hf, hb, aT, dT'] at h1;exact ⟨fn, c, hf, hb, h1.1, fun _ => h1.2⟩
theorem yaa (n : Nat) : q77 env n := sound (E := env) mixed y5e y4j n
def Law (f : Nat) : Prop := ∀ zs : List Int, (∀ z ∈ zs, (Lit.int .i64 z).wf = true) -> ∃ n h', call env n f [.d (ints .i64 zs)] [] = some (.d (.v (.bool true)), h')
end Go.Proofs.YtjfhnffdijlboaaGreat
namespace Go.Proofs.YtjfhnffdijlboaaGreat
open Go Go.Ab Go.Sort
def q2v (c : Config) (s : Nat) : Bool := twoB (delC s c)
theorem ValidC.cerr {c : Config} (h : ValidC c) : cerr c = 0 := q1p.2 h
theorem q18 {n s : Nat} (hn : n <= 10) (hs : s < 2 ^ n) : s < 1024 := by have := pow10 hn; omega
def askE (c : Config) (z : Int) : Int := if cerr c ≠ 0 then cerr c else if z < 0 then 1 else if ((2 ^ c.Members.length - 1 : Nat) : Int) < z then 1 else 0
theorem q9f {c : Config} {z : Int} (h : askE c z = 0) : ValidC c /\ ∃ s : Nat, z = (s : Int) /\ s < 2 ^ c.Members.length := by
 unfold askE at h;have hp1 := Nat.two_pow_pos c.Members.length;split at h
 ·rename_i h1; exact absurd h h1
 ·rename_i h1;refine ⟨q1p.1 (Classical.not_not.1 h1), z.toNat, ?_, ?_⟩
  ·split at h
   ·omega
   ·omega
  ·split at h
   ·omega
   ·split at h <;> omega
theorem qkh {c : Config} (hv : ValidC c) {s : Nat} (hs : s < 2 ^ c.Members.length) : askE c (s : Int) = 0 := by
 unfold askE;rw [hv.cerr, if_neg (by simp), if_neg (by omega), if_neg (by omega)]
def lexI : List Int -> List Int -> Int
 | [], [] => 0
 | [], _ :: _ => -1
 | _ :: _, [] => 1
 | x :: xs, y :: ys => if cmpI x y ≠ 0 then cmpI x y else lexI xs ys
mutual
def tcmp : Trust -> Trust -> Int
 | ⟨a, xs, ts⟩, ⟨b, ys, us⟩ => if cmpI a b ≠ 0 then cmpI a b else if lexI xs ys ≠ 0 then lexI xs ys else tcmps ts us
def tcmps : List Trust -> List Trust -> Int
 | [], [] => 0
 | [], _ :: _ => -1
 | _ :: _, [] => 1
 | t :: ts, u :: us => if tcmp t u ≠ 0 then tcmp t u else tcmps ts us
end
theorem qye (t u : Trust) : tcmp t u = if cmpI t.Threshold u.Threshold ≠ 0 then cmpI t.Threshold u.Threshold else if lexI t.Nodes u.Nodes ≠ 0 then lexI t.Nodes u.Nodes else tcmps t.Inner u.Inner := by
 cases t; cases u; simp only [tcmp]
theorem q9e {a b : Int} : cmpI a b = 0 ↔ a = b := by
 unfold cmpI; split
 ·simp; omega
 ·split
  ·simp; omega
  ·simp; omega
theorem qfz : ∀ {a b : List Int}, lexI a b = 0 ↔ a = b
 | [], [] => by simp [lexI]
 | [], _ :: _ => by simp [lexI]
 | _ :: _, [] => by simp [lexI]
 | x :: xs, y :: ys => by
  unfold lexI;by_cases h : cmpI x y = 0
  ·rw [if_neg (by simp [h]), qfz, q9e.1 h]; simp
  ·rw [if_pos h];have : x ≠ y := fun e => h (q9e.2 e)
   simp [h, this]
theorem qvj : ∀ a b : Trust, tcmp a b = 0 ↔ a = b := by
 apply Trust.ind;intro a ih b;have l : ∀ ts : List Trust, (∀ x ∈ ts, ∀ b, tcmp x b = 0 ↔ x = b) -> ∀ us : List Trust, tcmps ts us = 0 ↔ ts = us := by
  intro ts;induction ts with
  | nil => intro _ us; cases us <;> simp [tcmps]
  | cons t ts iht =>
   intro h us;cases us with
   | nil => simp [tcmps]
   | cons u us =>
    unfold tcmps;by_cases h0 : tcmp t u = 0
    ·rw [if_neg (by simp [h0]), iht (fun x hx => h x (by simp [hx])), (h t (by simp) u).1 h0]; simp
    ·rw [if_pos h0];have : t ≠ u := fun e => h0 ((h t (by simp) u).2 e)
     simp [h0, this]
 rw [qye];obtain ⟨ta, na, ia⟩ := a;obtain ⟨tb, nb, ib⟩ := b;simp only [Trust.mk.injEq];by_cases h1 : cmpI ta tb = 0
 ·rw [if_neg (by simp [h1])];by_cases h2 : lexI na nb = 0
  ·rw [if_neg (by simp [h2]), l ia ih ib, q9e.1 h1, qfz.1 h2]; simp
  ·rw [if_pos h2];have : na ≠ nb := fun e => h2 (qfz.2 e)
   simp [h2, this]
 ·rw [if_pos h1];have : ta ≠ tb := fun e => h1 (q9e.2 e)
  simp [h1, this]
theorem q6m (a b : Int) : z4z a b = some (cmpI a b) := by
 apply y6u;unfold cmpI;by_cases h : a < b
 ·rw [q02 h, if_pos h]; rfl
 ·rw [q00 (by omega), if_neg h];by_cases h2 : b < a
  ·rw [q02 h2, if_pos h2]; rfl
  ·rw [q00 (by omega), if_neg h2]; rfl
theorem qpv {α : Type} {xs ys : List α} {i : Nat} (h1 : xs.drop i = []) (h2 : ys.drop i = []) (l1 : i <= xs.length) (l2 : i <= ys.length) : cmpI ((xs.length : Nat) : Int) ((ys.length : Nat) : Int) = 0 := by
 have := List.drop_eq_nil_iff.1 h1; have := List.drop_eq_nil_iff.1 h2;exact q9e.2 (by omega)
theorem qqw {a b : Int} (h : a < b) : cmpI a b = -1 := by unfold cmpI; rw [if_pos h]
theorem qqo {a b : Int} (h : b < a) : cmpI a b = 1 := by unfold cmpI; rw [if_neg (by omega), if_pos h]
theorem qqc {xs ys : List Int} (hx : xs.length < 1152921504606846976) {t u : Int} {ts us : List Trust} (K : z1r 0 t xs ts u ys us = some (tcmps ts us)) : ∀ (sx sy : List Int) (i : Nat), xs.drop i = sx -> ys.drop i = sy -> i <= xs.length -> i <= ys.length ->
  z2k (i : Int) t xs ts u ys us = some (if lexI sx sy ≠ 0 then lexI sx sy else tcmps ts us)
 | [], [], i, h1, h2, l1, l2 => by
  apply qsd;rw [q0j h1, q6m, qpv h1 h2 l1 l2];simp only [cF, bS, q0b];rw [K]; rfl
 | [], y :: sy, i, h1, h2, l1, l2 => by
  have h3 := q0g h2;have := List.drop_eq_nil_iff.1 h1;apply qsd;rw [q0j h1, q6m, qqw (by omega)];rfl
 | x :: sx, [], i, h1, h2, l1, l2 => by
  have h3 := q0g h1;have := List.drop_eq_nil_iff.1 h2;apply qsd;rw [q08 h1, q0j h2, q6m, qqo (by omega)];rfl
 | x :: sx, y :: sy, i, h1, h2, l1, l2 => by
  have h3 := q0g h1;have h4 := q0g h2;have ih := qqc hx K sx sy (i + 1) (q03 h1) (q03 h2) (by omega) (by omega);apply qsd;rw [q08 h1, q08 h2];simp only [cT, q05 h1, q05 h2];rw [q6m];simp only [bS];by_cases h : cmpI x y = 0
  ·rw [h, q0b, q01 (by omega), ih];simp only [cF, lexI, h, ne_eq, not_true, if_false]
  ·rw [q0n h];simp only [cT, lexI, if_pos h]
theorem qrf : ∀ a : Trust, Small a -> ∀ b : Trust, Small b -> z63 a b = some (tcmp a b) := by
 apply Trust.ind;intro a ih ha b hb;have hna := ha.nodes;have hia := ha.inner;have l2 : ∀ (st su : List Trust) (i : Nat), a.Inner.drop i = st -> b.Inner.drop i = su -> i <= a.Inner.length -> i <= b.Inner.length ->
   z1r (i : Int) a.Threshold a.Nodes a.Inner b.Threshold b.Nodes b.Inner = some (tcmps st su) := by
  intro st;induction st with
  | nil =>
   intro su i h1 h2 l1 l2;cases su with
   | nil =>
    apply qse;rw [q0j h1, q6m, qpv h1 h2 l1 l2]; rfl
   | cons u su =>
    have h3 := q0g h2;have := List.drop_eq_nil_iff.1 h1;apply qse;rw [q0j h1, q6m, qqw (by omega)]; rfl
  | cons t st iht =>
   intro su i h1 h2 l1 l2;have h3 := q0g h1;cases su with
   | nil =>
    have := List.drop_eq_nil_iff.1 h2;apply qse;rw [q08 h1, q0j h2, q6m, qqo (by omega)]; rfl
   | cons u su =>
    have h4 := q0g h2;have ht : t ∈ a.Inner := List.mem_of_mem_drop (by rw [h1]; exact List.mem_cons_self);have hu : u ∈ b.Inner := List.mem_of_mem_drop (by rw [h2]; exact List.mem_cons_self);have ih' := iht su (i + 1) (q03 h1) (q03 h2) (by omega) (by omega);apply qse;rw [q08 h1, q08 h2];simp only [cT, q05 h1, q05 h2];rw [ih t ht (ha.mem ht) u (hb.mem hu)];simp only [bS];by_cases h : tcmp t u = 0
    ·rw [h, q0b, q01 (by omega), ih'];simp only [cF, tcmps, h, ne_eq, not_true, if_false]
    ·rw [q0n h];simp only [cT, tcmps, if_pos h]
 have l1 := qqc (ys := b.Nodes) hna (l2 a.Inner b.Inner 0 rfl rfl (by omega) (by omega)) a.Nodes b.Nodes 0 rfl rfl (by omega) (by omega);rw [qye];apply y6n;rw [q6m];simp only [bS];by_cases h : cmpI a.Threshold b.Threshold = 0
 ·rw [h, q0b];simp only [cF, ne_eq, not_true, if_false];exact l1
 ·rw [q0n h, if_pos h]; rfl
theorem y4x {α : Type} (u v : List α) (z x : α) :
  List.set (List.take (u.length + 1) (u ++ v ++ [z]) ++ List.take ((u ++ v ++ [z]).length - (u.length + 1)) (List.drop u.length (List.take (u ++ v ++ [z]).length (u ++ v ++ [z]))) ++
   List.drop (u.length + 1 + min ((u ++ v ++ [z]).length - (u.length + 1)) (List.drop u.length (List.take (u ++ v ++ [z]).length (u ++ v ++ [z]))).length) (u ++ v ++ [z])) u.length x = u ++ [x] ++ v := by
 rw [List.take_length];have e1 : List.drop u.length (u ++ v ++ [z]) = v ++ [z] := by rw [List.append_assoc, List.drop_left]
 rw [e1];have e2 : (u ++ v ++ [z]).length - (u.length + 1) = v.length := by simp; omega
 rw [e2, List.take_left];have e3 : min v.length (v ++ [z]).length = v.length := by simp
 rw [e3];have e4 : List.drop (u.length + 1 + v.length) (u ++ v ++ [z]) = [] := by
  rw [List.drop_eq_nil_iff]; simp; omega
 rw [e4, List.append_nil];have e5 : ∃ h, List.take (u.length + 1) (u ++ v ++ [z]) = u ++ [h] := by
  cases v with
  | nil => exact ⟨z, by simp [List.take_append, List.take_of_length_le (Nat.le_succ u.length)]⟩
  | cons h t => exact ⟨h, by simp [List.take_append, List.take_of_length_le (Nat.le_succ u.length)]⟩
 obtain ⟨h, e5⟩ := e5;rw [e5];simp
theorem qx1 {l out : List Trust} {t : Trust} (ht : Small t) (ho : ∀ x ∈ out, Small x) (hol : out.length < 1000000) {len : Int} {i0 : Nat} (hi0 : i0 < 4611686018427387904) {P : List Trust -> Prop}
  (H : ∀ o, (o = out /\ t ∈ out \/ ∃ u v, out = u ++ v /\ o = u ++ [t] ++ v) -> ∃ r, z22 o l len ((i0 + 1 : Nat) : Int) = some r /\ P r) : ∀ (suf : List Trust) (i k : Nat) (met : Bool), out.drop i = suf -> k <= out.length -> i <= out.length -> (met = true -> t ∈ out) ->
  ∃ r, z15 out (k : Int) met l len (i0 : Int) ((out.length : Nat) : Int) (i : Int) t.Threshold t.Nodes t.Inner = some r /\ P r
 | [], i, k, met, h, hk, hi, hm => by
  cases met with
  | true =>
   obtain ⟨r, r1, r2⟩ := H out (.inl ⟨rfl, hm rfl⟩);refine ⟨r, ?_, r2⟩;apply qqb;rw [q0j h];simp only [cF, cT];rw [q01 hi0]; exact r1
  | false =>
   have hsp : out = out.take k ++ out.drop k := (List.take_append_drop ..).symm;obtain ⟨r, r1, r2⟩ := H _ (.inr ⟨out.take k, out.drop k, hsp, rfl⟩);refine ⟨r, ?_, r2⟩;apply qqb;rw [q0j h];simp only [cF];have hku : (out.take k).length = k := by simp; omega
   have hsz : (out ++ [Trust.mk 0 [] []]).length = out.length + 1 := by simp
   rw [q06 (by simp [q0f]; omega), q01 (show k < 4611686018427387904 by omega)];rw [q81 (by omega) (by rw [hsz]; omega), q81 (by omega) (by rw [hsz]; omega)];simp only [tN];rw [q0m (Nat.le_refl _), q0m (Nat.le_refl _), q01 hi0];have key := y4x (out.take k) (out.drop k) (Trust.mk 0 [] []) (Trust.mk t.Threshold t.Nodes t.Inner);rw [<- hsp, hku] at key;have hlen : (List.take (k + 1) (out ++ [Trust.mk 0 [] []]) ++ List.take ((out ++ [Trust.mk 0 [] []]).length - (k + 1)) (List.drop k (List.take (out ++ [Trust.mk 0 [] []]).length (out ++ [Trust.mk 0 [] []]))) ++
     List.drop (k + 1 + min ((out ++ [Trust.mk 0 [] []]).length - (k + 1)) (List.drop k (List.take (out ++ [Trust.mk 0 [] []]).length (out ++ [Trust.mk 0 [] []]))).length) (out ++ [Trust.mk 0 [] []])).length = out.length + 1 := by
    have := congrArg List.length key;rw [List.length_set] at this;rw [this]; simp; omega
   rw [key];have hg := List.getElem?_eq_getElem (show k < _ from by rw [hlen]; omega);rw [q0y (by omega) (by rw [tN]; exact hg), q3i hg, Trust.eta];exact r1
 | y :: suf, i, k, met, h, hk, hi, hm => by
  have hlt := q0g h;have hy : y ∈ out := List.mem_of_mem_drop (by rw [h]; exact List.mem_cons_self);have hg : out[i]? = some y := by
   have := congrArg (fun l => l[0]?) h;simpa using this
  have ih : ∀ (k' : Nat) (met' : Bool), k' <= out.length -> (met' = true -> t ∈ out) -> ∃ r, z15 out (k' : Int) met' l len (i0 : Int) ((out.length : Nat) : Int) ((i + 1 : Nat) : Int) t.Threshold t.Nodes t.Inner = some r /\ P r :=
   fun k' met' h1 h2 => qx1 ht ho hol hi0 H suf (i + 1) k' met' (q03 h) h1 (by omega) h2
  have step : ∀ b : Bool, (b = true -> t ∈ out) -> ∃ r, (bif ltB (tcmp y t) 0 then z15 out ((i + 1 : Nat) : Int) b l len (i0 : Int) ((out.length : Nat) : Int) ((i + 1 : Nat) : Int) t.Threshold t.Nodes t.Inner else z15 out (k : Int) b l len (i0 : Int) ((out.length : Nat) : Int) ((i + 1 : Nat) : Int) t.Threshold t.Nodes t.Inner) = some r /\ P r := by
   intro b hb;cases ltB (tcmp y t) 0 with
   | true => exact ih (i + 1) b (by omega) hb
   | false => exact ih k b hk hb
  cases met with
  | true =>
   obtain ⟨r, r1, r2⟩ := step true hm;refine ⟨r, ?_, r2⟩;apply qqb;rw [q08 h];simp only [cT];rw [q05 h, tN, q3i hg, Trust.eta, qrf y (ho y hy) t ht];simp only [bS];rw [q01 (by omega)];exact r1
  | false =>
   obtain ⟨r, r1, r2⟩ := step (eqB (tcmp y t) 0) (fun hb => by rw [qvc] at hb; rw [<- (qvj y t).1 hb]; exact hy);refine ⟨r, ?_, r2⟩;apply qqb;rw [q08 h];simp only [cT, cF];rw [q05 h, tN, q3i hg, Trust.eta, qrf y (ho y hy) t ht];simp only [bS];rw [q01 (by omega)];exact r1
theorem qwd {l : List Trust} (hl : l.length < 1000000) (hs : ∀ x ∈ l, Small x) : ∀ (suf pre out : List Trust), l = pre ++ suf -> out.length <= pre.length -> (∀ y, y ∈ out ↔ y ∈ pre) ->
  ∃ r, z22 out l ((l.length : Nat) : Int) ((pre.length : Nat) : Int) = some r /\ (r.length <= l.length /\ ∀ y, y ∈ r ↔ y ∈ l)
 | [], pre, out, e, ho, hm => by
  rw [List.append_nil] at e;subst e;refine ⟨out, ?_, ho, hm⟩;apply y2h;rw [q00 (Int.le_refl _)]; rfl
 | t :: suf, pre, out, e, ho, hm => by
  have hd : l.drop pre.length = t :: suf := by rw [e]; simp
  have hlt := q0g hd;have ht : t ∈ l := by rw [e]; simp
  have hsub : ∀ y ∈ pre, y ∈ l := fun y hy => by rw [e]; simp [hy]
  have key := qx1 (l := l) (out := out) (t := t) (hs t ht) (fun x hx => hs x (hsub x ((hm x).1 hx))) (by omega) (len := ((l.length : Nat) : Int)) (i0 := pre.length) (by omega) (P := fun r => r.length <= l.length /\ ∀ y, y ∈ r ↔ y ∈ l)
   (fun o hoo => by
    have := qwd hl hs suf (pre ++ [t]) o (by rw [e]; simp) (by
     rcases hoo with ⟨rfl, _⟩ | ⟨u, v, e1, rfl⟩
     ·simp; omega
     ·rw [e1] at ho; simp at ho ⊢; omega) (fun y => by
     rcases hoo with ⟨rfl, h1⟩ | ⟨u, v, e1, rfl⟩
     ·have h2 := (hm t).1 h1;rw [hm y]; simp;intro e2; rw [e2]; exact h2
     ·have := hm y;rw [e1] at this;simp only [List.mem_append, List.mem_singleton] at this ⊢;rw [<- this];constructor
      ·rintro ((h | h) | h)
       ·exact .inl (.inl h)
       ·exact .inr h
       ·exact .inl (.inr h)
      ·rintro ((h | h) | h)
       ·exact .inl (.inl h)
       ·exact .inr h
       ·exact .inl (.inr h))
    simpa using this) out 0 0 false rfl (by omega) (by omega) (fun h => by cases h)
  obtain ⟨r, r1, r2⟩ := key;refine ⟨r, ?_, r2⟩;apply y2h;rw [q08 hd];simp only [cT, q05 hd];exact r1
noncomputable def diffs (l : List Trust) : List Trust := (z4b l).getD []
theorem qqk {l : List Trust} (hl : l.length < 1000000) (hs : ∀ x ∈ l, Small x) : z4b l = some (diffs l) /\ (diffs l).length <= l.length /\ ∀ y, y ∈ diffs l ↔ y ∈ l := by
 obtain ⟨r, r1, r2⟩ := qwd hl hs l [] [] rfl (by simp) (by simp);have : z4b l = some r := by
  apply y7t;exact r1
 have hd : diffs l = r := by unfold diffs; rw [this]; rfl
 rw [hd];exact ⟨this, r2⟩
def memJ (all : Bool) : List Trust -> Member
 | [] => ⟨false, blank⟩
 | [x] => ⟨true, x⟩
 | d => ⟨true, ⟨if all then ((d.length : Nat) : Int) else 1, [], d⟩⟩
def verrs : List Trust -> Int
 | [] => 0
 | t :: r => if verr t = 0 then verrs r else verr t
theorem qiu : ∀ {l : List Trust}, verrs l = 0 ↔ ∀ x ∈ l, valid x = true
 | [] => by simp [verrs]
 | t :: r => by
  unfold verrs;by_cases h : verr t = 0
  ·rw [if_pos h, qiu]; simp [(q74 t).1 h]
  ·rw [if_neg h];have : valid t ≠ true := fun e => h ((q74 t).2 e)
   simp [h, this]
noncomputable def listE (x : List Trust) : Int := if verrs x = 0 then (if 4 < (diffs x).length then 3 else 0) else verrs x
noncomputable def qap : List (List Trust) -> Int
 | [] => 0
 | x :: r => if listE x = 0 then qap r else listE x
noncomputable def joinC (all : Bool) (l : List (List Trust)) : Config := ⟨l.map fun x => memJ all (diffs x)⟩
noncomputable def joinE (all : Bool) (l : List (List Trust)) : Int := if 10 < l.length then 3 else if qap l = 0 then cerr (joinC all l) else qap l
noncomputable def joinR (all : Bool) (l : List (List Trust)) : Config × Int := if joinE all l = 0 then (joinC all l, 0) else (⟨[]⟩, joinE all l)
theorem qs7 {b : Nat} : ∀ {l : List Trust}, (∀ x ∈ l, size x <= b) -> sizes l <= l.length * b
 | [], _ => by simp [sizes]
 | x :: r, h => by
  have h1 := h x (by simp);have h2 := qs7 (l := r) (fun y hy => h y (by simp [hy]));simp only [sizes, List.length_cons, Nat.succ_mul]; omega
theorem qsp {all : Bool} {d : List Trust} (hd : d.length <= 4) (hv : ∀ x ∈ d, valid x = true) : Small (memJ all d).Trust := by
 match d, hd, hv with
 | [], _, _ => unfold Small; simp [memJ, blank, size, sizes]
 | [x], _, hv => exact q3e (hv x (by simp))
 | x :: y :: r, hd, hv =>
  have := qs7 (b := 200) (l := x :: y :: r) (fun z hz => qdc (hv z hz));unfold Small memJ;rw [q1h];simp only [List.length_nil] at *;omega
def qna (l : List (List Trust)) : Prop := ∀ x ∈ l, x.length < 1000000 /\ ∀ y ∈ x, Small y
theorem qvy {all : Bool} {l : List (List Trust)} {x : List Trust} (hx : x.length < 1000000 /\ ∀ y ∈ x, Small y) {acc dummy : List Member} (ha : acc.length < 1000) {i0 : Nat} (hi0 : i0 < 1000000) {r : Config × Int} {len : Int}
  (K : listE x = 0 -> z1z all l len ((i0 + 1 : Nat) : Int) dummy (acc ++ [memJ all (diffs x)]) = some r) (Ke : listE x ≠ 0 -> r = (⟨[]⟩, listE x)) : ∀ (suf : List Trust) (i : Nat), x.drop i = suf -> (verrs suf = verrs x) ->
  z4a all x l len (i0 : Int) x ((x.length : Nat) : Int) (i : Int) dummy acc = some r
 | [], i, h, hv => by
  have hz : verrs x = 0 := by rw [<- hv]; rfl
  obtain ⟨d1, d2, d3⟩ := qqk hx.1 hx.2;apply y1f;rw [q0j h];simp only [cF];rw [d1];simp only [bS];by_cases h4 : 4 < (diffs x).length
  ·have he : listE x = 3 := by unfold listE; rw [if_pos hz, if_pos h4]
   rw [q02 (by omega), Ke (by rw [he]; decide), he]; rfl
  ·have he : listE x = 0 := by unfold listE; rw [if_pos hz, if_neg h4]
   have K' := K he;rw [q00 (by omega), q01 (by omega)];simp only [cF];match hd : diffs x with
   | [] =>
    rw [hd] at K';rw [q0r (by simp), q00 (by simp)];simp only [cF];rw [q06 (by simp [q0f]; omega)];exact K'
   | [y] =>
    rw [hd] at K';rw [show eqB (([y].length : Nat) : Int) 1 = true from by simp [eqB]];simp only [cT];rw [q0y (xs := [y]) (n := 0) (y := y) (by decide) rfl, q06 (by simp [q0f]; omega)];simp only [Trust.eta];exact K'
   | y :: z :: d =>
    rw [hd] at K';have hn : (y :: z :: d).length = d.length + 2 := rfl;rw [q0r (by rw [hn]; omega), q02 (by rw [hn]; omega)];simp only [cF, cT];cases all with
    | true =>
     simp only [cT];rw [q06 (by simp [q0f]; omega)];exact K'
    | false =>
     simp only [cF];rw [q06 (by simp [q0f]; omega)];exact K'
 | t :: suf, i, h, hv => by
  have hlt := q0g h;have ht : t ∈ x := List.mem_of_mem_drop (by rw [h]; exact List.mem_cons_self);apply y1f;rw [q08 h];simp only [cT, q05 h];rw [qr0 t (hx.2 t ht)];simp only [bS];by_cases h0 : verr t = 0
  ·have hv' : verrs suf = verrs x := by rw [<- hv]; simp [verrs, h0]
   rw [h0, q0b, q01 (by omega)];exact qvy hx ha hi0 K Ke suf (i + 1) (q03 h) hv'
  ·have hv' : verrs x = verr t := by rw [<- hv]; simp [verrs, h0]
   have he : listE x = verr t := by unfold listE; rw [if_neg (by rw [hv']; exact h0), hv']
   rw [q0n h0, Ke (by rw [he]; exact h0), he]; rfl
theorem qvi {all : Bool} {l : List (List Trust)} (hl : l.length <= 10) (hs : qna l) {dummy : List Member} : ∀ (suf pre : List (List Trust)), l = pre ++ suf -> qap suf = qap l -> (∀ x ∈ pre, listE x = 0) ->
  z1z all l ((l.length : Nat) : Int) ((pre.length : Nat) : Int) dummy (pre.map fun x => memJ all (diffs x)) = some (joinR all l)
 | [], pre, e, he, hp => by
  rw [List.append_nil] at e;subst e;have h0 : qap l = 0 := by rw [<- he]; rfl
  have hsm : q0e (joinC all l) := ⟨by unfold joinC; simp only [List.length_map]; omega, fun m hm => by
   unfold joinC at hm;obtain ⟨x, hx, rfl⟩ := List.mem_map.1 hm;have h1 := hp x hx;unfold listE at h1;by_cases hv : verrs x = 0
   ·rw [if_pos hv] at h1;obtain ⟨d1, d2, d3⟩ := qqk (hs x hx).1 (hs x hx).2;have h4 : (diffs x).length <= 4 := by
     by_cases h4 : 4 < (diffs x).length
     ·rw [if_pos h4] at h1; cases h1
     ·omega
    exact qsp h4 (fun y hy => qiu.1 hv y ((d3 y).1 hy))
   ·rw [if_neg hv] at h1; exact absurd h1 hv⟩
  have hE : joinE all l = cerr (joinC all l) := by unfold joinE; rw [if_neg (by omega), if_pos h0]
  apply y36;rw [q00 (Int.le_refl _)];simp only [cF];rw [show Config.mk (l.map fun x => memJ all (diffs x)) = joinC all l from rfl, q8e hsm];simp only [bS];unfold joinR;rw [hE];by_cases hc : cerr (joinC all l) = 0
  ·rw [hc, q0b]; rfl
  ·rw [q0n hc, if_neg hc]; rfl
 | x :: suf, pre, e, he, hp => by
  have hd : l.drop pre.length = x :: suf := by rw [e]; simp
  have hlt := q0g hd;have hx : x ∈ l := by rw [e]; simp
  apply y36;rw [q08 hd];simp only [cT, q05 hd];refine qvy (hs x hx) (by simp; omega) (by omega) (fun h0 => ?_) (fun h0 => ?_) x 0 rfl rfl
  ·have := qvi (all := all) hl hs (dummy := dummy) suf (pre ++ [x]) (by rw [e]; simp) (by rw [<- he]; simp [qap, h0]) (fun y hy => by
    rcases List.mem_append.1 hy with hy | hy
    ·exact hp y hy
    ·rw [List.mem_singleton.1 hy]; exact h0)
   simpa using this
  ·have h1 : qap l = listE x := by rw [<- he]; simp [qap, h0]
   have hE : joinE all l = listE x := by unfold joinE; rw [if_neg (by omega : ¬ 10 < l.length), if_neg (by rw [h1]; exact h0), h1]
   unfold joinR;rw [hE, if_neg h0]
theorem qnb {all : Bool} {l : List (List Trust)} (hs : qna l) (hl : l.length < 1000000) : z6c l all = some (joinR all l) := by
 apply y8t;by_cases h : 10 < l.length
 ·rw [q02 (by omega)];unfold joinR joinE;rw [if_pos h]; rfl
 ·rw [q00 (by omega)];exact qvi (by omega) hs l [] rfl rfl (by simp)
theorem y56 {l : List (List Trust)} (hs : qna l) (hl : l.length < 1000000) : z7l l = some (joinR false l) := by
 apply yal;rw [qnb hs hl]; rfl
theorem qzr {l : List (List Trust)} (hs : qna l) (hl : l.length < 1000000) : z7b l = some (joinR true l) := by
 apply y8s;rw [qnb hs hl]; rfl
theorem nz {a : Nat} : a ≠ 0 ↔ ∃ i, a.testBit i = true := ⟨qyz, fun ⟨i, hi⟩ e => by rw [e, Nat.zero_testBit] at hi; cases hi⟩
theorem qq9 {a b : Nat} : a &&& b ≠ 0 ↔ ∃ i, a.testBit i = true /\ b.testBit i = true := by
 rw [nz]; simp only [Nat.testBit_and, aT]
theorem qk6 {a b : Nat} : ndiff a b ≠ 0 ↔ ∃ i, a.testBit i = true /\ b.testBit i = false := by
 rw [nz]; simp only [q04, aT, Bool.not_eq_true']
def full (c : Config) : Nat := 2 ^ c.Members.length - 1
theorem q8c {c : Config} {i : Nat} : (full c).testBit i = decide (i < c.Members.length) := by rw [full, Nat.testBit_two_pow_sub_one]
theorem q2l {c : Config} (hn : c.Members.length <= 10) : full c < 1024 := by have := pow10 hn; unfold full; omega
theorem qd6 {c : Config} {s : Nat} : s < 2 ^ c.Members.length ↔ Sub s (full c) := q1r
theorem qyd {c : Config} (hn : c.Members.length <= 10) : Sub (decl c) (full c) := qd6.1 (q8z hn)
structure PairOk (n : Nat) (lo hi : Config) : Prop where
 lok : ConfOk n lo
 hik : ConfOk n hi
 len : lo.Members.length = hi.Members.length
 dec : decl lo = decl hi
 imp : ∀ k s, (decl lo).testBit k = true -> s < 1024 -> sat s (tr hi k) = true -> sat s (tr lo k) = true
variable {n : Nat} {lo hi : Config}
theorem PairOk.self {c : Config} (h : ConfOk n c) : PairOk n c c := ⟨h, h, rfl, rfl, fun _ _ _ _ h => h⟩
theorem PairOk.fullEq (h : PairOk n lo hi) : full lo = full hi := by unfold full; rw [h.len]
theorem qjj (h : PairOk n lo hi) {q : Nat} (hq : q2b hi q) : q2b lo q :=
 ⟨hq.1, by rw [h.dec]; exact hq.2.1, fun k hk => h.imp k q (by rw [h.dec]; exact hq.2.1 k hk) (qq7 hq) (hq.2.2 k hk)⟩
theorem qk4 {s z : Nat} (h : Sub s z) {t : Trust} (hs : sat s t = true) : sat z t = true := qs2 (qog h) t hs
theorem y84 {c : Config} {a b : Nat} (ha : q2b c a) (hb : q2b c b) : q2b c (a ||| b) := by
 refine ⟨fun e => ha.1 (Nat.le_zero.1 (e ▸ (Nat.left_le_or : a <= a ||| b))), ha.2.1.or hb.2.1, fun k hk => ?_⟩;rw [Nat.testBit_or, Bool.or_eq_true] at hk;rcases hk with hk | hk
 ·exact qk4 Sub.left (ha.2.2 k hk)
 ·exact qk4 Sub.right (hb.2.2 k hk)
def QL (c : Config) (b y : Nat) : Prop := y ≠ 0 /\ Sub y (decl c) /\ (∀ i, y.testBit i = true -> b.testBit i = false) /\ ∀ k, y.testBit k = true -> sat (y ||| b) (tr c k) = true
theorem yay {c : Config} {b y : Nat} : q2b (delC b c) y ↔ QL c b y := by
 constructor
 ·intro h;have hd : ∀ i, y.testBit i = true -> b.testBit i = false := fun i hi => (q3w.1 (h.2.1 i hi)).2
  have h' := (qin (qq7 h) hd).1 h;exact ⟨h'.1, h'.2.1, hd, h'.2.2⟩
 ·rintro ⟨h1, h2, h3, h4⟩;exact (qin (h2.lt (q51 c)) h3).2 ⟨h1, h2, h4⟩
theorem q98 {c : Config} {b d y : Nat} (hbd : Sub b d) (h : QL c b y) (h0 : ndiff y d ≠ 0) : QL c d (ndiff y d) := by
 refine ⟨h0, fun i hi => h.2.1 i ?_, fun i hi => ?_, fun k hk => ?_⟩
 ·rw [q04, aT] at hi; exact hi.1
 ·rw [q04, aT, Bool.not_eq_true'] at hi; exact hi.2
 ·rw [q04, aT] at hk;rw [qop];refine qk4 (fun i hi => ?_) (h.2.2.2 k hk.1);rw [Nat.testBit_or, Bool.or_eq_true] at hi ⊢;exact hi.imp id (hbd i)
theorem y3h {c : Config} {q : Nat} (h : q2b c q) : QL c 0 q := ⟨h.1, h.2.1, fun i _ => Nat.zero_testBit i, fun k hk => by rw [Nat.or_zero]; exact h.2.2 k hk⟩
theorem qrm (b : Nat) : Sub 0 b := fun i hi => by rw [Nat.zero_testBit] at hi; cases hi
theorem qm1 {c : Config} {b q : Nat} (h : q2b c q) (hd : ∀ i, q.testBit i = true -> b.testBit i = false) : QL c b q :=
 ⟨h.1, h.2.1, hd, fun k hk => qk4 Sub.left (h.2.2 k hk)⟩
theorem qh2 {c : Config} (hn : c.Members.length <= 10) {b : Nat} : q2v c b = true ↔ ∃ x y, QL c b x /\ QL c b y /\ x &&& y = 0 := by
 unfold q2v;rw [qzf (by rw [qqn]; exact hn)];simp only [yay]
theorem qjn {c : Config} (hn : c.Members.length <= 10) {b x y : Nat} (h : q2v c b = false) (hx : QL c b x) (hy : QL c b y) : ∃ i, x.testBit i = true /\ y.testBit i = true := by
 apply qq9.1;intro e;rw [(qh2 hn).2 ⟨x, y, hx, hy, e⟩] at h;cases h
def qbv (c : Config) (b : Nat) : Bool := ndiff (full c) b == 0 || quoB c (ndiff (full c) b)
def isB (lo hi : Config) (b : Nat) : Bool := qbv hi b && !q2v lo b
theorem qba {c : Config} (hn : c.Members.length <= 10) (b : Nat) : ndiff (full c) b < 1024 := q20 (q2l hn)
theorem qvt {c : Config} (hn : c.Members.length <= 10) {b : Nat} : qbv c b = true ↔ ndiff (full c) b = 0 \/ q2b c (ndiff (full c) b) := by
 unfold qbv;rw [Bool.or_eq_true, beq_iff_eq, qbw (qba hn b)]
theorem ConfOk.le10 {c : Config} (h : ConfOk n c) (hn : n <= 10) : c.Members.length <= 10 := Nat.le_trans h.le hn
theorem qd8 (h : PairOk n lo hi) (hn : n <= 10) {b : Nat} : isB lo hi b = true ↔ (ndiff (full lo) b = 0 \/ q2b hi (ndiff (full lo) b)) /\ q2v lo b = false := by
 unfold isB;rw [aT, qvt (h.hik.le10 hn), <- h.fullEq, Bool.not_eq_true']
theorem q2j {a b : Nat} : ndiff a b = 0 ↔ Sub a b := by rw [<- q6d, subB, beq_iff_eq]
theorem qyw (h : PairOk n lo hi) (hn : n <= 10) : isB lo hi (full lo) = true := by
 rw [qd8 h hn];refine ⟨.inl (q2j.2 (Sub.refl _)), ?_⟩;rw [<- Bool.not_eq_true, qh2 (h.lok.le10 hn)];rintro ⟨x, _, ⟨h1, h2, h3, _⟩, _⟩;obtain ⟨i, hi⟩ := nz.1 h1;have := qyd (h.lok.le10 hn) i (h2 i hi);rw [h3 i hi] at this;cases this
theorem meets (h : PairOk n lo hi) (hn : n <= 10) {ill x y : Nat} (hx : isB lo hi x = true) (hy : isB lo hi y = true) (hill : q2v lo ill = false) (ix : Sub ill x) (iy : Sub ill y) (lx : Sub x (full lo)) (ly : Sub y (full lo)) : isB lo hi (x &&& y) = true := by
 have hle := h.lok.le10 hn;obtain ⟨ax, sx⟩ := (qd8 h hn).1 hx;obtain ⟨ay, sy⟩ := (qd8 h hn).1 hy;rcases ax with ax | ax
 ·rw [show x &&& y = y from (Sub.and_right x y).antisymm (fun i hi => by rw [Nat.testBit_and, q2j.1 ax i (ly i hi), hi]; rfl)];exact hy
 rcases ay with ay | ay
 ·rw [show x &&& y = x from (Sub.and_left x y).antisymm (fun i hi => by rw [Nat.testBit_and, q2j.1 ay i (lx i hi), hi]; rfl)];exact hx
 have hU : ndiff (full lo) (x &&& y) = ndiff (full lo) x ||| ndiff (full lo) y := by
  apply Nat.eq_of_testBit_eq;intro i;simp only [Nat.testBit_or, q04, Nat.testBit_and];cases (full lo).testBit i <;> cases x.testBit i <;> cases y.testBit i <;> rfl
 rw [qd8 h hn, hU];refine ⟨.inr (y84 ax ay), ?_⟩;have bx : ∀ i, (ndiff (full lo) x).testBit i = true -> x.testBit i = false := fun i hi => by
  rw [q04, aT, Bool.not_eq_true'] at hi; exact hi.2
 have by' : ∀ i, (ndiff (full lo) y).testBit i = true -> y.testBit i = false := fun i hi => by
  rw [q04, aT, Bool.not_eq_true'] at hi; exact hi.2
 have off : ∀ {a b : Nat}, Sub a b -> ∀ i, b.testBit i = false -> a.testBit i = false := fun {a b} hs i hi => by
  cases ha : a.testBit i with
  | false => rfl
  | true => rw [hs i ha] at hi; cases hi
 obtain ⟨m, m1, m2⟩ := qjn hle hill (qm1 (qjj h ax) fun i hi => off ix i (bx i hi)) (qm1 (qjj h ay) fun i hi => off iy i (by' i hi));have claim : ∀ A, QL lo (x &&& y) A -> ndiff A x ≠ 0 := by
  intro A hA h0;have hsub := q2j.1 h0;obtain ⟨i, hi⟩ := nz.1 hA.1;have hxy := hA.2.2.1 i hi;rw [Nat.testBit_and, hsub i hi, tA] at hxy;have hAy := q98 (Sub.and_right x y) hA (qk6.2 ⟨i, hi, hxy⟩);have hUy := q98 (qrm y) (y3h (qjj h ax)) (qk6.2 ⟨m, m1, by' m m2⟩);obtain ⟨j, j1, j2⟩ := qjn hle sy hAy hUy;rw [q04, aT] at j1 j2;have := bx j j2.1;rw [hsub j j1.1] at this;cases this
 rw [<- Bool.not_eq_true, qh2 hle];rintro ⟨A, B, hA, hB, hAB⟩;obtain ⟨j, j1, j2⟩ := qjn hle sx (q98 (Sub.and_left x y) hA (claim A hA)) (q98 (Sub.and_left x y) hB (claim B hB));rw [q04, aT] at j1 j2;exact qq9.2 ⟨j, j1.1, j2.1⟩ hAB
def alls (lo hi : Config) (ill : Nat) : List Nat := (q1l (full lo)).filter fun b => ndiff ill b == 0 && isB lo hi b
theorem q8l {ill b : Nat} : b ∈ alls lo hi ill ↔ Sub b (full lo) /\ Sub ill b /\ isB lo hi b = true := by
 unfold alls;rw [List.mem_filter, q0t, aT, beq_iff_eq, q2j]
theorem qwv (h : PairOk n lo hi) (hn : n <= 10) {ill : Nat} (hill : Sub ill (full lo)) : full lo ∈ alls lo hi ill := q8l.2 ⟨Sub.refl _, hill, qyw h hn⟩
def ands : List Nat -> Nat -> Nat := fun l a => l.foldl (fun a b => a &&& b) a
theorem qq3 : ∀ (l : List Nat) (a : Nat), Sub (ands l a) a /\ ∀ b ∈ l, Sub (ands l a) b
 | [], a => ⟨Sub.refl _, fun b hb => by cases hb⟩
 | x :: l, a => by
  obtain ⟨h1, h2⟩ := qq3 l (a &&& x);refine ⟨h1.trans (Sub.and_left _ _), fun b hb => ?_⟩;rcases List.mem_cons.1 hb with rfl | hb
  ·exact h1.trans (Sub.and_right _ _)
  ·exact h2 b hb
theorem qmr {p : Nat -> Prop} (hp : ∀ a b, p a -> p b -> p (a &&& b)) : ∀ (l : List Nat) (a : Nat), p a -> (∀ b ∈ l, p b) -> p (ands l a)
 | [], _, ha, _ => ha
 | x :: l, a, ha, h => qmr hp l (a &&& x) (hp a x ha (h x (by simp))) (fun b hb => h b (by simp [hb]))
def bef (lo hi : Config) (ill : Nat) : Nat := if q2v lo ill then full lo else ands (alls lo hi ill) (full lo)
theorem y1b (h : PairOk n lo hi) (hn : n <= 10) {ill : Nat} (hill : Sub ill (full lo)) (hs : q2v lo ill = false) : bef lo hi ill ∈ alls lo hi ill := by
 unfold bef;rw [hs];exact qmr (p := fun b => b ∈ alls lo hi ill) (fun a b ha hb => by
  obtain ⟨a1, a2, a3⟩ := q8l.1 ha;obtain ⟨b1, b2, b3⟩ := q8l.1 hb;exact q8l.2 ⟨(Sub.and_left _ _).trans a1, fun i hi => by rw [Nat.testBit_and, a2 i hi, b2 i hi]; rfl, meets h hn a3 b3 hs a2 b2 a1 b1⟩) _ _ (qwv h hn hill) fun b hb => hb
theorem qso (h : PairOk n lo hi) (hn : n <= 10) {ill : Nat} (hill : Sub ill (full lo)) (h0 : ndiff (full lo) (bef lo hi ill) ≠ 0) : q2v lo ill = false /\ q2b hi (ndiff (full lo) (bef lo hi ill)) := by
 cases hs : q2v lo ill with
 | true =>
  exfalso; apply h0;rw [q2j]; unfold bef; rw [hs]; exact Sub.refl _
 | false =>
  obtain ⟨_, _, hb⟩ := q8l.1 (y1b h hn hill hs);exact ⟨rfl, ((qd8 h hn).1 hb).1.resolve_left h0⟩
theorem y5h {c : Config} (h : ConfOk n c) (_hn : n <= 10) {k : Nat} (hk : (decl c).testBit k = true) : Sub (uses (tr c k)) (full c) := by
 obtain ⟨m, m1, m2, m3⟩ := q3q hk;have := (h.good m (List.mem_of_getElem? m1) m3).2;rw [m2];exact qd6.1 (qim _ this)
theorem y09 {c : Config} (h : ConfOk n c) (hn : n <= 10) {k s z : Nat} (hk : (decl c).testBit k = true) (hs : ∀ i, (full c).testBit i = true -> s.testBit i = z.testBit i) : sat s (tr c k) = sat z (tr c k) := by
 apply qrh;intro j hj;obtain ⟨i, rfl, hi, hb⟩ := qfv hj;rw [q26 hi, q26 hi];exact hs i (y5h h hn hk i hb)
theorem follows (h : PairOk n lo hi) (hn : n <= 10) {ill x g : Nat} (hill : Sub ill (full lo)) (hg : q2b lo g) (h0 : g &&& ndiff (full lo) (bef lo hi ill) ≠ 0) (hx : Sub (g &&& ndiff (full lo) (bef lo hi ill)) x) (hne : ¬ Sub (ndiff (full lo) (bef lo hi ill)) x) :
  ∃ v, (ndiff (full lo) (bef lo hi ill)).testBit v = true /\ x.testBit v = false /\ blk lo v (ndiff (full lo) (bef lo hi ill) &&& x) = true := by
 have hle := h.lok.le10 hn;have ha0 : ndiff (full lo) (bef lo hi ill) ≠ 0 := by
  obtain ⟨i, _, h2⟩ := qq9.1 h0;exact nz.2 ⟨i, h2⟩
 obtain ⟨hs, hq⟩ := qso h hn hill ha0;have hb := y1b h hn hill hs;obtain ⟨_, _, hbi⟩ := q8l.1 hb;have hsb := ((qd8 h hn).1 hbi).2;generalize hB : bef lo hi ill = b at *;apply Classical.byContradiction;intro hno;have hno' : ∀ v, (ndiff (full lo) b).testBit v = true -> x.testBit v = false -> blk lo v (ndiff (full lo) b &&& x) = false := fun v h1 h2 => by
  cases hk : blk lo v (ndiff (full lo) b &&& x) with
  | false => rfl
  | true => exact absurd ⟨v, h1, h2, hk⟩ hno
 have hdec : Sub (ndiff (full lo) b) (decl lo) := by rw [h.dec]; exact hq.2.1
 have hW0 : ndiff (ndiff (full lo) b) x ≠ 0 := fun e => hne (q2j.1 e)
 have hW : QL lo b (ndiff (ndiff (full lo) b) x) := by
  refine ⟨hW0, fun i hi => hdec i ?_, fun i hi => ?_, fun k hk => ?_⟩
  ·rw [q04, aT] at hi; exact hi.1
  ·rw [q04, q04] at hi; simp only [aT, Bool.not_eq_true'] at hi; exact hi.1.2
  ·rw [q04 (ndiff (full lo) b) x, aT, Bool.not_eq_true'] at hk;have hkd := hdec k hk.1;have := hno' k hk.1 hk.2;unfold blk at this;rw [hkd, tA, Bool.not_eq_false'] at this;rw [<- this];apply y09 h.lok hn hkd;intro i hi;have h10 : (1023 : Nat).testBit i = true := by
    rw [q8c, dT'] at hi;rw [qi0, dT']; omega
   rw [Nat.testBit_or, Nat.testBit_or, q04, q04, q04, Nat.testBit_and, q04, q7u, hi, h10];by_cases hki : k = i
   ·subst hki; rw [hk.2];have := hk.1;rw [q04, hi, tA] at this;simp [this]
   ·rw [decide_eq_false hki];cases b.testBit i <;> cases x.testBit i <;> rfl
 have hgl := q98 (qrm b) (y3h hg) (by
  obtain ⟨i, h1, h2⟩ := qq9.1 h0;rw [q04, aT, Bool.not_eq_true'] at h2;exact qk6.2 ⟨i, h1, h2.2⟩)
 obtain ⟨i, i1, i2⟩ := qjn hle hsb hW hgl;rw [q04, aT, Bool.not_eq_true'] at i1;rw [q04, aT] at i2;have := hx i (by rw [Nat.testBit_and, i2.1, i1.1]; rfl);rw [i1.2] at this;cases this
def q4n (c : Config) (b v : Nat) : Bool := !(decl c).testBit v || !sat (ndiff (full c) b) (tr c v)
def refR (lo hi : Config) (b : Nat) : Int × Int × Int × Int :=
 match (nodes (ndiff (full hi) b)).find? (q4n hi b) with
 | some v => ((v : Int), 0, 0, 0)
 | none => if twoB (delC b lo) then (-1, ((apart (delC b lo)).1 : Int), ((apart (delC b lo)).2 : Int), 0) else (0, 0, 0, 11)
def quoZ (c : Config) (z : Int) : Bool := okS z && quoB c z.toNat
def chkB (lo hi : Config) (b : Nat) (x y z : Int) : Bool :=
 if 0 <= x then decide (y = 0) && (decide (z = 0) && (has (ndiff (full hi) b) x && q4n hi b x.toNat))
 else decide (x = -1) && (quoZ (delC b lo) y && (quoZ (delC b lo) z && y.toNat &&& z.toNat == 0))
theorem qxv {c : Config} {z : Int} (h : quoZ c z = true) : ∃ s : Nat, z = (s : Int) /\ q2b c s := by
 unfold quoZ at h;rw [aT] at h;obtain ⟨s, rfl, hs⟩ := qrv h.1;exact ⟨s, rfl, (qbw hs).1 h.2⟩
theorem qzm {m : Nat} : ∀ t : Trust, good t = true -> uses t < 2 ^ m -> below (m : Int) t = true := by
 apply Trust.ind;intro t ih hg hu;rw [q9j] at hg;simp only [aT, dT'] at hg;obtain ⟨_, _, hN, _, hI⟩ := hg;rw [q6t] at hu;have hu' := q1r.1 hu;rw [qq6, aT];refine ⟨?_, ?_⟩
 ·rw [List.all_eq_true];intro k hk;have hkr := List.all_eq_true.1 hN k hk;have h1 := qgu hk hkr;obtain ⟨j, rfl, hj, hb⟩ := qfv h1;have h2 := hu' j (by rw [Nat.testBit_or, hb]; rfl);rw [Nat.testBit_two_pow_sub_one, dT'] at h2;simp; omega
 ·have hgs : ∀ l : List Trust, goods l = true -> ∀ x ∈ l, good x = true := by
   intro l;induction l with
   | nil => intro _ x hx; cases hx
   | cons y r ihr =>
    intro h x hx;simp only [goods, aT] at h;rcases List.mem_cons.1 hx with rfl | hx
    ·exact h.1
    ·exact ihr h.2 x hx
  have key : ∀ l : List Trust, (∀ x ∈ l, below (m : Int) x = true) -> q4p (m : Int) l = true := by
   intro l;induction l with
   | nil => intro _; rfl
   | cons y r ihr => intro h; simp only [q4p, h y (by simp), ihr (fun x hx => h x (by simp [hx])), Bool.and_self]
  refine key _ fun x hx => ih x hx (hgs _ hI x hx) ?_
  exact q1r.2 fun i hi => hu' i (by rw [Nat.testBit_or, qht hx i hi, Bool.or_true])
theorem ValidC.conf {c : Config} {n : Nat} (h : ValidC c) (h1 : 1 <= c.Members.length) (h2 : c.Members.length <= n) : ConfOk n c :=
 ⟨h1, h2, fun m hm => by
  have := h.2 m hm;unfold MemV at this;unfold MemOk;split
  ·rename_i hd;rw [if_pos hd] at this;exact ⟨this.1, qzm _ (qto this.1) this.2⟩
  ·rename_i hd;rw [if_neg hd] at this;exact this⟩
theorem qww (a b : Bool) (d : List Trust) : (memJ a d).Declared = (memJ b d).Declared := by
 match d with
 | [] => rfl
 | [_] => rfl
 | _ :: _ :: _ => rfl
theorem qs0 {s : Nat} : ∀ {l : List Trust}, 1 <= sats s l ↔ ∃ x ∈ l, sat s x = true
 | [] => by simp [sats]
 | x :: r => by
  have ih := qs0 (s := s) (l := r);simp only [sats, List.mem_cons, exists_eq_or_imp, <- ih];cases sat s x <;> simp <;> omega
theorem qwz (s : Nat) : ∀ l : List Trust, sats s l <= l.length
 | [] => by simp [sats]
 | x :: r => by
  have := qwz s r;simp only [sats, List.length_cons]; split <;> omega
theorem qrq {s : Nat} : ∀ {l : List Trust}, l.length <= sats s l ↔ ∀ x ∈ l, sat s x = true
 | [] => by simp [sats]
 | x :: r => by
  have ih := qrq (s := s) (l := r);have h2 := qwz s r;simp only [sats, List.length_cons, List.mem_cons, forall_eq_or_imp, <- ih];cases sat s x
  ·simp; omega
  ·simp; omega
theorem qwn {s : Nat} {d : List Trust} (h0 : d ≠ []) : sat s (memJ true d).Trust = true ↔ ∀ x ∈ d, sat s x = true := by
 match d, h0 with
 | [x], _ => simp [memJ]
 | x :: y :: r, _ =>
  rw [<- qrq];unfold memJ;rw [q8q];simp only [if_true, cnt, List.countP_nil, Nat.zero_add, dT'];omega
theorem qzv {s : Nat} {d : List Trust} (h0 : d ≠ []) : sat s (memJ false d).Trust = true ↔ ∃ x ∈ d, sat s x = true := by
 match d, h0 with
 | [x], _ => simp [memJ]
 | x :: y :: r, _ =>
  rw [<- qs0];unfold memJ;rw [q8q];simp only [fT, if_false, cnt, List.countP_nil, Nat.zero_add, dT'];omega
theorem q7e (a : Bool) (l : List (List Trust)) : (joinC a l).Members.length = l.length := by unfold joinC; simp
theorem qh4 (a : Bool) (l : List (List Trust)) (k : Nat) : (joinC a l).Members[k]? = (l[k]?).map fun x => memJ a (diffs x) := by unfold joinC; simp
theorem qiy (a b : Bool) (l : List (List Trust)) : decl (joinC a l) = decl (joinC b l) := by
 apply Nat.eq_of_testBit_eq;intro i;rw [Bool.eq_iff_iff, q39, q39, qh4, qh4];cases h : l[i]? with
 | none => simp
 | some x => simp [qww a b]
theorem qj3 {a : Bool} {l : List (List Trust)} (h : joinE a l = 0) : l.length <= 10 /\ qap l = 0 /\ cerr (joinC a l) = 0 := by
 unfold joinE at h;split at h
 ·cases h
 ·split at h
  ·rename_i h1 h2; exact ⟨by omega, h2, h⟩
  ·rename_i h2; exact absurd h h2
theorem qxm {n : Nat} {l : List (List Trust)} (h1 : 1 <= l.length) (h2 : l.length <= n) (e0 : joinE false l = 0) (e1 : joinE true l = 0) : PairOk n (joinC false l) (joinC true l) := by
 obtain ⟨_, _, c0⟩ := qj3 e0;obtain ⟨_, _, c1⟩ := qj3 e1;refine ⟨(q1p.1 c0).conf (by rw [q7e]; exact h1) (by rw [q7e]; exact h2), (q1p.1 c1).conf (by rw [q7e]; exact h1) (by rw [q7e]; exact h2), by rw [q7e, q7e], qiy _ _ _, fun k s hk hs h => ?_⟩;obtain ⟨m, m1, m2, m3⟩ := q3q hk;rw [qiy false true] at hk;obtain ⟨m', m1', m2', m3'⟩ := q3q hk;rw [qh4] at m1 m1';cases hx : l[k]? with
 | none => rw [hx] at m1; cases m1
 | some x =>
  rw [hx] at m1 m1';simp only [mS, sI] at m1 m1';have h0 : diffs x ≠ [] := fun e => by rw [<- m1, e] at m3; cases m3
  rw [m2, <- m1, qzv h0];rw [m2', <- m1', qwn h0] at h;obtain ⟨y, r, hy⟩ := List.exists_cons_of_ne_nil h0;exact ⟨y, by rw [hy]; simp, h y (by rw [hy]; simp)⟩
theorem y4y {m : Int} (h1 : 1 <= m) (h2 : m <= 10) {x : Trust} (hx : size x <= 200) {l : List Int} {i : Int} (h : q0q l i) : ∃ t j, z7i x m l i = some (t, l, j) /\ Small t /\ q0q l j := by
 obtain ⟨v, j, g1, g2, g3, g4⟩ := N_ok (n := 3) (by decide) (by decide) h;have hsm : ∀ k, Small (Trust.mk k x.Nodes x.Inner) := fun k => by
  rw [q1h] at hx;unfold Small; rw [q1h]; simp only; omega
 by_cases h0 : v = 0
 ·refine ⟨Trust.mk (if (addI .i64 x.Threshold 1) < (addI .i64 ((List.length x.Nodes : Nat) : Int) ((List.length x.Inner : Nat) : Int)) then (addI .i64 x.Threshold 1) else (addI .i64 ((List.length x.Nodes : Nat) : Int) ((List.length x.Inner : Nat) : Int))) x.Nodes x.Inner, j, ?_, hsm _, g4⟩;apply qxr;rw [g1];simp only [bS];rw [h0, q0k];rfl
 ·by_cases h1' : v = 1
  ·refine ⟨Trust.mk (if (subI .i64 x.Threshold 1) > 1 then (subI .i64 x.Threshold 1) else 1) x.Nodes x.Inner, j, ?_, hsm _, g4⟩;apply qxr;rw [g1];simp only [bS];rw [q0r h0, h1', q0k];simp only [cF, cT]
  ·obtain ⟨t, j2, k1, _, k3, k4⟩ := qqg h1 h2 1 (by decide) g4;refine ⟨t, j2, ?_, k3, k4⟩;apply qxr;rw [g1];simp only [bS];rw [q0r h0, q0r h1', show (2 : Int) = ((1 + 1 : Nat) : Int) from rfl, k1];simp only [cF, bS, Trust.eta]
def PairR (n : Nat) (tl : List Int) (r : Option (Config × Config × List Int × Int)) : Prop := ∃ lo hi j, r = some (lo, hi, tl, j) /\ PairOk n lo hi /\ q0q tl j
theorem qx6 {n : Nat} {ms : List Member} (hm1 : 1 <= ms.length) (hm2 : ms.length <= 10) {acc : List (List Trust)} (hacc : acc.length < 100) {len : Int} {i0 : Nat} (hi0 : i0 < 1000) {tl : List Int} {d1 d2 : List Member} {t : Trust} {b : Bool} (ht : size t <= 200)
  (K : ∀ x i, (x.length < 1000000 /\ ∀ y ∈ x, Small y) -> q0q tl i -> PairR n tl (z3i (acc ++ [x]) ms len ((i0 + 1 : Nat) : Int) tl i d1 d2 ms)) : ∀ (k : Nat) (x : List Trust) (i : Int), x.length + k < 1000 -> (∀ y ∈ x, Small y) -> q0q tl i ->
  PairR n tl (z6j acc x (k : Int) ms len (i0 : Int) tl i d1 d2 ms b t.Threshold t.Nodes t.Inner)
 | 0, x, i, hx, hs, h => by
  obtain ⟨lo, hi, j, g1, g2, g3⟩ := K x i ⟨by omega, hs⟩ h;refine ⟨lo, hi, j, ?_, g2, g3⟩;apply y1p;rw [q00 (by omega)];simp only [cF];rw [q06 (by simp [q0f]; omega), q01 (by omega)];exact g1
 | k + 1, x, i, hx, hs, h => by
  obtain ⟨y, j, k1, k2, k3⟩ := y4y (m := ((ms.length : Nat) : Int)) (by omega) (by omega) ht h;obtain ⟨lo, hi, j2, g1, g2, g3⟩ := qx6 hm1 hm2 hacc hi0 (b := b) ht K k (x ++ [y]) j (by simp; omega) (fun z hz => by
   rcases List.mem_append.1 hz with hz | hz
   ·exact hs z hz
   ·rw [List.mem_singleton.1 hz]; exact k2) k3
  refine ⟨lo, hi, j2, ?_, g2, g3⟩;apply y1p;rw [q02 (by omega)];simp only [cT, Trust.eta];rw [k1];simp only [bS];rw [q06 (by simp [q0f]; omega), q25 (by omega) (by omega), show ((k + 1 : Nat) : Int) - 1 = ((k : Nat) : Int) by omega];exact g1
theorem qux {n : Nat} (hn : n <= 10) {c : Config} (hc : ConfOk n c) {tl : List Int} {d1 d2 : List Member} : ∀ (suf pre : List Member) (acc : List (List Trust)) (i : Int), c.Members = pre ++ suf -> acc.length = pre.length -> qna acc -> q0q tl i ->
  PairR n tl (z3i acc c.Members ((c.Members.length : Nat) : Int) ((pre.length : Nat) : Int) tl i d1 d2 c.Members)
 | [], pre, acc, i, e, ha, hs, h => by
  have hpos := hc.pos;have hle := hc.le;rw [List.append_nil] at e;have hal : acc.length = c.Members.length := by rw [e]; exact ha
  have hL := y56 hs (show acc.length < 1000000 by omega);have hH := qzr hs (show acc.length < 1000000 by omega);have key : ∀ lo hi, PairOk n lo hi -> (bif neB (joinR false acc).2 0 then some (Config.mk c.Members, Config.mk c.Members, tl, i) else bif neB (joinR true acc).2 0 then some (Config.mk c.Members, Config.mk c.Members, tl, i) else some (Config.mk (joinR false acc).1.Members, Config.mk (joinR true acc).1.Members, tl, i)) = some (lo, hi, tl, i) -> PairR n tl (z3i acc c.Members ((c.Members.length : Nat) : Int) ((pre.length : Nat) : Int) tl i d1 d2 c.Members) := by
   intro lo hi hp he;refine ⟨lo, hi, i, ?_, hp, h⟩;apply qx5;rw [q00 (by rw [e]; exact Int.le_refl _)];simp only [cF];rw [hL];simp only [bS];rw [hH];simp only [bS];exact he
  by_cases e0 : joinE false acc = 0
  ·by_cases e1 : joinE true acc = 0
   ·refine key _ _ (qxm (by omega) (by omega) e0 e1) ?_;rw [show joinR false acc = (joinC false acc, 0) from by unfold joinR; rw [if_pos e0], show joinR true acc = (joinC true acc, 0) from by unfold joinR; rw [if_pos e1]];rfl
   ·refine key _ _ (PairOk.self hc) ?_;rw [show joinR false acc = (joinC false acc, 0) from by unfold joinR; rw [if_pos e0], show joinR true acc = (⟨[]⟩, joinE true acc) from by unfold joinR; rw [if_neg e1]];simp only [q0b, cF, q0n e1, cT]
  ·refine key _ _ (PairOk.self hc) ?_;rw [show joinR false acc = (⟨[]⟩, joinE false acc) from by unfold joinR; rw [if_neg e0]];simp only [q0n e0, cT]
 | m :: suf, pre, acc, i, e, ha, hs, h => by
  have hpos := hc.pos;have hle := hc.le;have hd : c.Members.drop pre.length = m :: suf := by rw [e]; simp
  have hlt := q0g hd;have hm : m ∈ c.Members := by rw [e]; simp
  have go : ∀ x i, (x.length < 1000000 /\ ∀ y ∈ x, Small y) -> q0q tl i -> PairR n tl (z3i (acc ++ [x]) c.Members ((c.Members.length : Nat) : Int) ((pre.length + 1 : Nat) : Int) tl i d1 d2 c.Members) := fun x i hx hi => by
   have := qux hn hc (d1 := d1) (d2 := d2) suf (pre ++ [m]) (acc ++ [x]) i (by rw [e]; simp) (by simp [ha]) (fun y hy => by
    rcases List.mem_append.1 hy with hy | hy
    ·exact hs y hy
    ·rw [List.mem_singleton.1 hy]; exact hx) hi
   rw [List.length_append] at this;exact this
  cases hdec : m.Declared with
  | false =>
   obtain ⟨lo, hi, j, g1, g2, g3⟩ := go [] i ⟨by simp, by simp⟩ h;refine ⟨lo, hi, j, ?_, g2, g3⟩;apply qx5;rw [q08 hd];simp only [cT, q05 hd, hdec, cF];rw [q06 (by simp [q0f]; omega), q01 (by omega)];exact g1
  | true =>
   have hv := (hc.good m hm hdec).1;obtain ⟨v, j0, k1, k2, k3, k4⟩ := N_ok (n := 3) (by decide) (by decide) h;obtain ⟨w, rfl⟩ := Int.eq_ofNat_of_zero_le k2;obtain ⟨lo, hi, j, g1, g2, g3⟩ := qx6 (n := n) (b := true) hpos (by omega) (show acc.length < 100 by omega) (i0 := pre.length) (by omega) (d1 := d1) (d2 := d2) (qdc hv) go w [m.Trust] j0 (by simp; omega) (fun y hy => by rw [List.mem_singleton.1 hy]; exact q3e hv) k4;refine ⟨lo, hi, j, ?_, g2, g3⟩;apply qx5;rw [q08 hd];simp only [cT, q05 hd, hdec];rw [q06 (by simp [q0f]), k1];simp only [bS, Trust.eta, List.nil_append];exact g1
theorem y4e {n : Nat} (h1 : 1 <= n) (hn : n <= 10) {tl : List Int} {i : Int} (h : q0q tl i) : ∃ lo hi j, z7m (n : Int) tl i = some (lo, hi, tl, j) /\ PairOk n lo hi /\ q0q tl j := by
 obtain ⟨c, j, a1, a2, a3⟩ := qy3 h1 hn h;obtain ⟨v, j2, b1, b2, b3, b4⟩ := N_ok (n := 2) (by decide) (by decide) a3;by_cases h0 : v = 0
 ·refine ⟨c, c, j2, ?_, PairOk.self a2, b4⟩;apply y0w;rw [a1];simp only [bS];rw [b1];simp only [bS, h0, q0k, cT]
 ·obtain ⟨lo, hi, j3, g1, g2, g3⟩ := qux hn a2 (d1 := []) (d2 := []) c.Members [] [] j2 rfl rfl (fun x hx => by cases hx) b4;refine ⟨lo, hi, j3, ?_, g2, g3⟩;apply y0w;rw [a1];simp only [bS];rw [b1];simp only [bS];rw [q0r h0];exact g1
theorem qry {a b : Int} (h : a = b) : neB a b = false := by rw [h, q0b]
theorem q41 {c : Config} (hn : c.Members.length <= 10) : z1h c = some ((full c : Nat) : Int) := by
 apply y8q;rw [q0m (by omega), q2r hn]; rfl
theorem q44 {c : Config} (hn : c.Members.length <= 10) : z3g c = some ((full c : Nat) : Int) := by
 apply y71;rw [q0m (by omega), q2r hn]; rfl
theorem qah {c : Config} {i : Nat} {m : Member} (h : c.Members[i]? = some m) (hi : i < 10) : (decl c).testBit i = m.Declared := by
 rw [Bool.eq_iff_iff, q39];exact ⟨fun ⟨_, m', h1, h2⟩ => by rw [h] at h1; cases h1; exact h2, fun h2 => ⟨hi, m, h, h2⟩⟩
theorem qiq {c : Config} {i : Nat} {m : Member} (h : c.Members[i]? = some m) : tr c i = m.Trust := by unfold tr; rw [h]; rfl
theorem ValidC.mem {c : Config} (h : ValidC c) {i : Nat} {m : Member} (hm : c.Members[i]? = some m) (hd : m.Declared = true) : valid m.Trust = true /\ uses m.Trust < 2 ^ c.Members.length := by
 have := h.2 m (List.mem_of_getElem? hm);unfold MemV at this
 rwa [if_pos hd] at this
def impK (lo hi : Config) (k : Nat) : Bool := !(decl lo).testBit k || impB (tr hi k) (tr lo k)
def impsB (lo hi : Config) : Bool := (List.range' 0 lo.Members.length).all (impK lo hi)
def pairE (lo hi : Config) : Int :=
 if cerr lo ≠ 0 then cerr lo else if cerr hi ≠ 0 then cerr hi else if lo.Members.length ≠ hi.Members.length then 1 else if decl lo ≠ decl hi then 1
 else if 7 < lo.Members.length then 3 else if impsB lo hi = true then 0 else 14
theorem q0p {lo hi : Config} (h : pairE lo hi = 0) : ValidC lo /\ ValidC hi /\ lo.Members.length = hi.Members.length /\ decl lo = decl hi /\ lo.Members.length <= 7 := by
 unfold pairE at h;split at h
 ·rename_i h1; exact absurd h h1
 ·rename_i h1;split at h
  ·rename_i h2; exact absurd h h2
  ·rename_i h2;split at h
   ·cases h
   ·rename_i h3;split at h
    ·cases h
    ·rename_i h4;split at h
     ·cases h
     ·rename_i h5;exact ⟨q1p.1 (Classical.not_not.1 h1), q1p.1 (Classical.not_not.1 h2), Classical.not_not.1 h3, Classical.not_not.1 h4, by omega⟩
theorem qmb {lo hi : Config} (hv : ValidC lo) (hw : ValidC hi) (hl : lo.Members.length = hi.Members.length) (hd : decl lo = decl hi) : ∀ (n i : Nat), i + n = lo.Members.length ->
  z1y hi.Members ((hi.Members.length : Nat) : Int) (i : Int) lo.Members hi.Members = some (if (List.range' i n).all (impK lo hi) = true then 0 else 14)
 | 0, i, h => by
  apply y1i;rw [q00 (by omega)]; rfl
 | n + 1, i, h => by
  have hle := hv.1;have ih := qmb hv hw hl hd n (i + 1) (by omega);have g1 : lo.Members[i]? = some lo.Members[i] := List.getElem?_eq_getElem (by omega);have g2 : hi.Members[i]? = some (hi.Members[i]'(by omega)) := List.getElem?_eq_getElem (by omega);apply y1i;rw [q02 (by omega)];simp only [cT];rw [q0y (by omega) (by rw [tN]; exact g2)];have e1 := qah g1 (by omega);have e2 := qah g2 (by omega);rw [hd, e2] at e1;rw [List.range'_succ, List.all_cons, q01 (by omega), ih];cases hdec : (hi.Members[i]'(by omega)).Declared with
  | false =>
   have : impK lo hi i = true := by unfold impK; rw [hd, e2, hdec]; rfl
   rw [this]; rfl
  | true =>
   rw [hdec] at e1;obtain ⟨z, hz⟩ := qt8 (hw.mem g2 hdec).1 (hv.mem g1 e1.symm).1;have : impK lo hi i = impB (hi.Members[i]'(by omega)).Trust lo.Members[i].Trust := by unfold impK; rw [hd, e2, hdec, qiq g1, qiq g2]; simp only [nT, Bool.false_or]
   simp only [nT, cF];rw [q0y (by omega) (by rw [tN]; exact g1), hz, this];simp only [bS];cases impB (hi.Members[i]'(by omega)).Trust lo.Members[i].Trust <;> rfl
theorem qmz {lo hi : Config} (hs : q0e lo) (hs' : q0e hi) : z4f lo hi = some (pairE lo hi) := by
 have h1 := hs.1;have h2 := hs'.1;apply ya5;rw [qcg hs];simp only [bS];unfold pairE;by_cases e1 : cerr lo = 0
 ·rw [e1, q0b, if_neg (by simp), qcg hs'];simp only [cF, bS];by_cases e2 : cerr hi = 0
  ·rw [e2, q0b, if_neg (by simp)];simp only [cF];by_cases e3 : lo.Members.length = hi.Members.length
   ·rw [e3, q0b, if_neg (by simp), q58 lo h1, q58 hi h2];simp only [cF, bS];by_cases e4 : decl lo = decl hi
    ·rw [<- e4, q0b, if_neg (by simp)];simp only [cF];by_cases e5 : 7 < hi.Members.length
     ·rw [q02 (by omega), if_pos e5]; rfl
     ·rw [q00 (by omega), if_neg e5];simp only [cF];have := qmb (q1p.1 e1) (q1p.1 e2) e3 e4 lo.Members.length 0 (by omega);exact this
    ·rw [q0n (by omega), if_pos e4]; rfl
   ·rw [q0n (by omega), if_pos e3]; rfl
  ·rw [q0n e2, if_pos e2]; rfl
 ·rw [q0n e1, if_pos e1]; rfl
def impN (n : Nat) (a b : Trust) : Bool := (List.range' 0 (2 ^ n)).all fun s => !sat s a || sat s b
theorem y5o {n : Nat} (hn : n <= 10) {a b : Trust} (ha : uses a < 2 ^ n) (hb : uses b < 2 ^ n) : impN n a b = impB a b := by
 rw [Bool.eq_iff_iff, qzj];unfold impN;rw [List.all_eq_true];have cut : ∀ (t : Trust) (s : Nat), uses t < 2 ^ n -> sat (s &&& (2 ^ n - 1)) t = sat s t := fun t s ht => qrh t fun k hk => by
  obtain ⟨i, rfl, hi, hb⟩ := qfv hk;have := q1r.1 ht i hb;rw [q26 hi, q26 hi, Nat.testBit_and, this, Bool.and_true]
 constructor
 ·intro h s _ hsa;have hlt : s &&& (2 ^ n - 1) < 2 ^ n := by
   have := Nat.two_pow_pos n;have := Nat.and_le_right (n := s) (m := 2 ^ n - 1);omega
  have := h (s &&& (2 ^ n - 1)) (by rw [List.mem_range'_1]; omega);rw [cut a s ha, cut b s hb, hsa] at this;simpa using this
 ·intro h s hs;rw [List.mem_range'_1] at hs;have hp := pow10 hn;cases hsa : sat s a with
  | false => rfl
  | true => simp only [nT, Bool.false_or]; exact h s (by omega) hsa
theorem qmi {lo hi : Config} (hv : ValidC lo) {k : Nat} {m m' : Member} (g1 : lo.Members[k]? = some m) (g2 : hi.Members[k]? = some m') (s1 : Small m.Trust) (s2 : Small m'.Trust) {len r : Int} (K : z35 len ((k + 1 : Nat) : Int) lo.Members hi.Members = some r) (hk : k < 100) : ∀ (j s : Nat), s + j = 2 ^ lo.Members.length ->
  z3y (k : Int) (s : Int) len (k : Int) lo.Members hi.Members = some (if ((List.range' s j).all fun s => !sat s m'.Trust || sat s m.Trust) = true then r else 14)
 | 0, s, h => by
  apply y22;rw [show Config.mk lo.Members = lo from rfl, q44 hv.1];simp only [bS];have : full lo < s := by have := Nat.two_pow_pos lo.Members.length; unfold full; omega
  rw [q09 (by omega)];simp only [cF];rw [q01 (by omega)];exact K
 | j + 1, s, h => by
  have hp := pow10 hv.1;have ih := qmi hv g1 g2 s1 s2 K hk j (s + 1) (by omega);apply y22;rw [show Config.mk lo.Members = lo from rfl, q44 hv.1];simp only [bS];have : s <= full lo := by unfold full; omega
  rw [q0d (by omega)];simp only [cT];rw [q0y (by omega) (by rw [tN]; exact g2), q43 (by omega) m'.Trust s2];simp only [bS];rw [q01 (by omega), ih, List.range'_succ, List.all_cons];cases hb : sat s m'.Trust with
  | false => rfl
  | true =>
   simp only [cT];rw [q0y (by omega) (by rw [tN]; exact g1), q43 (by omega) m.Trust s1];simp only [bS];cases sat s m.Trust <;> rfl
theorem qnv {lo hi : Config} (hv : ValidC lo) (hw : ValidC hi) (hl : lo.Members.length = hi.Members.length) (hd : decl lo = decl hi) : ∀ (n i : Nat), i + n = lo.Members.length ->
  z35 ((lo.Members.length : Nat) : Int) (i : Int) lo.Members hi.Members = some (if (List.range' i n).all (impK lo hi) = true then 0 else 14)
 | 0, i, h => by
  apply y0u;rw [q00 (by omega)]; rfl
 | n + 1, i, h => by
  have hle := hv.1;have ih := qnv hv hw hl hd n (i + 1) (by omega);have g1 : lo.Members[i]? = some lo.Members[i] := List.getElem?_eq_getElem (by omega);have g2 : hi.Members[i]? = some (hi.Members[i]'(by omega)) := List.getElem?_eq_getElem (by omega);apply y0u;rw [q02 (by omega)];simp only [cT];rw [q0y (by omega) (by rw [tN]; exact g1)];have e1 := qah g1 (by omega);have e2 := qah g2 (by omega);have e3 := e1;rw [hd, e2] at e1;rw [List.range'_succ, List.all_cons, q01 (by omega)];cases hdec : lo.Members[i].Declared with
  | false =>
   have : impK lo hi i = true := by unfold impK; rw [e3, hdec]; rfl
   rw [this, ih]; rfl
  | true =>
   rw [hdec] at e1;have m1 := hv.mem g1 hdec;have m2 := hw.mem g2 e1;have : impK lo hi i = impN lo.Members.length (hi.Members[i]'(by omega)).Trust lo.Members[i].Trust := by
    rw [y5o hv.1 (by rw [hl]; exact m2.2) m1.2];unfold impK; rw [e3, hdec, qiq g1, qiq g2]; simp only [nT, Bool.false_or]
   simp only [nT, cF];have key := qmi hv g1 g2 (q3e m1.1) (q3e m2.1) ih (by omega) (2 ^ lo.Members.length) 0 (by omega);rw [this];refine Eq.trans key ?_;rw [show ((List.range' 0 (2 ^ lo.Members.length)).all fun s => !sat s (hi.Members[i]'(by omega)).Trust || sat s lo.Members[i].Trust) = impN lo.Members.length (hi.Members[i]'(by omega)).Trust lo.Members[i].Trust from rfl];cases impN lo.Members.length (hi.Members[i]'(by omega)).Trust lo.Members[i].Trust with
   | false => rfl
   | true => simp only [tA, if_true]
theorem qmx {lo hi : Config} (hs : q0e lo) (hs' : q0e hi) : z6m lo hi = some (pairE lo hi) := by
 have h1 := hs.1;have h2 := hs'.1;apply yao;rw [q8e hs];simp only [bS];unfold pairE;by_cases e1 : cerr lo = 0
 ·rw [e1, q0b, if_neg (by simp), q8e hs'];simp only [cF, bS];by_cases e2 : cerr hi = 0
  ·rw [e2, q0b, if_neg (by simp)];simp only [cF];by_cases e3 : lo.Members.length = hi.Members.length
   ·rw [qry (by rw [e3]), if_neg (by rw [e3]; simp), q3g lo h1, q3g hi h2];simp only [cF, bS];by_cases e4 : decl lo = decl hi
    ·rw [qry (by rw [e4]), if_neg (by rw [e4]; simp)];simp only [cF];by_cases e5 : 7 < lo.Members.length
     ·rw [q02 (by omega), if_pos e5]; rfl
     ·rw [q00 (by omega), if_neg e5];simp only [cF];exact qnv (q1p.1 e1) (q1p.1 e2) e3 e4 lo.Members.length 0 (by omega)
    ·rw [q0n (by omega), if_pos e4]; rfl
   ·rw [q0n (by omega), if_pos e3]; rfl
  ·rw [q0n e2, if_pos e2]; rfl
 ·rw [q0n e1, if_pos e1]; rfl
theorem qfo {c : Config} (hc : q0e c) (z : Int) : z36 c z = some (askE c z) := by
 apply y61;rw [qcg hc];simp only [bS, askE];by_cases he : cerr c = 0
 ·rw [he, q0b];simp only [cF, ne_eq, not_true, if_false];by_cases h0 : z < 0
  ·rw [q02 h0, if_pos h0]; rfl
  ·rw [q00 (by omega), if_neg h0, q41 (q1p.1 he).1];simp only [cF, bS, full];by_cases h1 : ((2 ^ c.Members.length - 1 : Nat) : Int) < z
   ·rw [q02 h1, if_pos h1]; rfl
   ·rw [q00 (by omega), if_neg h1]; rfl
 ·rw [q0n he];simp [he]
theorem qoj {c : Config} (hv : ValidC c) (z : Int) : z6t c z = some (askE c z) := by
 apply y98;unfold askE;rw [hv.cerr, if_neg (by simp)];by_cases h0 : z < 0
 ·rw [q02 h0, if_pos h0]; rfl
 ·rw [q00 (by omega), if_neg h0, q44 hv.1];simp only [cF, bS, full];by_cases h1 : ((2 ^ c.Members.length - 1 : Nat) : Int) < z
  ·rw [q02 h1, if_pos h1]; rfl
  ·rw [q00 (by omega), if_neg h1]; rfl
def qje (c : Config) (z : Int) : Bool × Int := if askE c z = 0 then (!q2v c z.toNat, 0) else (false, askE c z)
def avaR (c : Config) (z : Int) : Bool × Int := if askE c z = 0 then (qbv c z.toNat, 0) else (false, askE c z)
theorem qhb {c : Config} (hc : q0e c) (z : Int) : z23 c z = some (qje c z) := by
 apply y6k;rw [qfo hc];simp only [bS, qje];by_cases h : askE c z = 0
 ·obtain ⟨hv, s, rfl, hs⟩ := q9f h;rw [h, q0b, qfm (q18 hv.1 hs) c hv.bears];simp only [bS, cF, if_true];rw [qwy (q11 s hv).small (q11 s hv).cerr];rfl
 ·rw [q0n h, if_neg h]; rfl
theorem qhy {c : Config} (hc : q0e c) (z : Int) : z3n c z = some (qje c z) := by
 apply ya0;rw [q8e hc];simp only [bS, qje];by_cases he : cerr c = 0
 ·rw [he, q0b, qoj (q1p.1 he)];simp only [cF, bS];by_cases h : askE c z = 0
  ·obtain ⟨hv, s, rfl, hs⟩ := q9f h;rw [h, q0b, q4g (q18 hv.1 hs) c hv.bears];simp only [bS, cF, if_true];rw [qv0 (q11 s hv).small (q11 s hv).cerr];rfl
  ·rw [q0n h, if_neg h]; rfl
 ·have h : askE c z = cerr c := by unfold askE; rw [if_pos he]
  rw [q0n he, h, if_neg he]; rfl
theorem qdi {c : Config} (hn : c.Members.length <= 10) {s : Nat} (hs : s < 2 ^ c.Members.length) : subI .i64 ((full c : Nat) : Int) ((s : Nat) : Int) = ((ndiff (full c) s : Nat) : Int) := by
 have := q2l hn;rw [qcn (by unfold full; omega) (by omega)];unfold full;rw [qih hs]
theorem q7x {c : Config} (hn : c.Members.length <= 10) {s : Nat} (hs : s < 2 ^ c.Members.length) : q1w .i64 ((full c : Nat) : Int) ((s : Nat) : Int) = ((ndiff (full c) s : Nat) : Int) := by
 have := q2l hn;have := q18 hn hs;rw [q12 (by omega) (by omega)]
theorem qxj {c : Config} (hc : q0e c) (z : Int) : z3u c z = some (avaR c z) := by
 apply y6r;rw [qfo hc];simp only [bS, avaR];by_cases h : askE c z = 0
 ·obtain ⟨hv, s, rfl, hs⟩ := q9f h;rw [h, q0b, q41 hv.1];simp only [bS, cF, if_true];rw [q7x hv.1 hs, q4t, tN];unfold qbv;cases h0 : (ndiff (full c) s == 0) with
  | true => simp
  | false =>
   simp only [cF, Bool.false_or];rw [qaj (qba hv.1 s) hv.small]; rfl
 ·rw [q0n h, if_neg h]; rfl
theorem qw1 {c : Config} (hc : q0e c) (z : Int) : z65 c z = some (avaR c z) := by
 apply y7c;rw [q8e hc];simp only [bS, avaR];by_cases he : cerr c = 0
 ·rw [he, q0b, qoj (q1p.1 he)];simp only [cF, bS];by_cases h : askE c z = 0
  ·obtain ⟨hv, s, rfl, hs⟩ := q9f h;rw [h, q0b, q44 hv.1];simp only [bS, cF, if_true];rw [qdi hv.1 hs, q4t, tN];unfold qbv;cases h0 : (ndiff (full c) s == 0) with
   | true => simp
   | false =>
    simp only [cF, Bool.false_or];rw [qd3 (qba hv.1 s) hv.small]; rfl
  ·rw [q0n h, if_neg h]; rfl
 ·have h : askE c z = cerr c := by unfold askE; rw [if_pos he]
  rw [q0n he, h, if_neg he]; rfl
def dE (lo hi : Config) (z : Int) : Int := if pairE lo hi = 0 then askE lo z else pairE lo hi
theorem qfi {lo hi : Config} (hs : q0e lo) (hs' : q0e hi) (z : Int) : z2x lo hi z = some (dE lo hi z) := by
 apply y8j;rw [qmz hs hs'];simp only [bS, dE];by_cases h : pairE lo hi = 0
 ·rw [h, q0b, qfo hs]; rfl
 ·rw [q0n h, if_neg h]; rfl
theorem qc6 {lo hi : Config} (hs : q0e lo) (hs' : q0e hi) (z : Int) : z5j lo hi z = some (dE lo hi z) := by
 apply y8b;rw [qmx hs hs'];simp only [bS, dE];by_cases h : pairE lo hi = 0
 ·rw [h, q0b, qoj (q0p h).1]; rfl
 ·rw [q0n h, if_neg h]; rfl
theorem q2t {lo hi : Config} {z : Int} (h : dE lo hi z = 0) : pairE lo hi = 0 /\ ∃ s : Nat, z = (s : Int) /\ s < 2 ^ lo.Members.length := by
 unfold dE at h;split at h
 ·rename_i h1; exact ⟨h1, (q9f h).2⟩
 ·rename_i h1; exact absurd h h1
theorem qm4 {lo hi : Config} (h : pairE lo hi = 0) {s : Nat} (hs : s < 2 ^ lo.Members.length) : dE lo hi (s : Int) = 0 := by
 unfold dE; rw [if_pos h, qkh (q0p h).1 hs]
theorem q5s {c : Config} (hv : ValidC c) {s : Nat} (hs : s < 2 ^ c.Members.length) : qje c (s : Int) = (!q2v c s, 0) := by
 unfold qje; rw [if_pos (qkh hv hs)]; rfl
theorem qro {c : Config} (hv : ValidC c) {s : Nat} (hs : s < 2 ^ c.Members.length) : avaR c (s : Int) = (qbv c s, 0) := by
 unfold avaR; rw [if_pos (qkh hv hs)]; rfl
theorem y1j {lo hi : Config} (h : pairE lo hi = 0) {s : Nat} (hs : s < 2 ^ lo.Members.length) : z5o lo hi (s : Int) = some (isB lo hi s) := by
 obtain ⟨hv, hw, hl, _, _⟩ := q0p h;apply y7i;rw [qxj hw.small, qro hw (by rw [<- hl]; exact hs)];simp only [bS, isB];cases qbv hi s with
 | false => rfl
 | true =>
  simp only [nT, cF, tA];rw [qhb hv.small, q5s hv hs]; rfl
theorem y0r {lo hi : Config} (h : pairE lo hi = 0) {s : Nat} (hs : s < 2 ^ lo.Members.length) : z7f lo hi (s : Int) = some (isB lo hi s) := by
 obtain ⟨hv, hw, hl, _, _⟩ := q0p h;apply y7u;rw [qw1 hw.small, qro hw (by rw [<- hl]; exact hs)];simp only [bS, isB];cases qbv hi s with
 | false => rfl
 | true =>
  simp only [nT, cF, tA];rw [qhy hv.small, q5s hv hs]; rfl
def isR (lo hi : Config) (z : Int) : Bool × Int := if dE lo hi z = 0 then (isB lo hi z.toNat, 0) else (false, dE lo hi z)
theorem y8r {lo hi : Config} (hs : q0e lo) (hs' : q0e hi) (z : Int) : z69 lo hi z = some (isR lo hi z) := by
 apply y7e;rw [qfi hs hs'];simp only [bS, isR];by_cases h : dE lo hi z = 0
 ·obtain ⟨h0, s, rfl, hlt⟩ := q2t h;rw [h, q0b, y1j h0 hlt]; rfl
 ·rw [q0n h, if_neg h]; rfl
theorem y8l {lo hi : Config} (hs : q0e lo) (hs' : q0e hi) (z : Int) : z7o lo hi z = some (isR lo hi z) := by
 apply y6l;rw [qc6 hs hs'];simp only [bS, isR];by_cases h : dE lo hi z = 0
 ·obtain ⟨h0, s, rfl, hlt⟩ := q2t h;rw [h, q0b, y0r h0 hlt]; rfl
 ·rw [q0n h, if_neg h]; rfl
theorem y4k {lo hi : Config} (h : pairE lo hi = 0) {s : Nat} (hs : s < 2 ^ lo.Members.length) : isR lo hi (s : Int) = (isB lo hi s, 0) := by
 unfold isR; rw [if_pos (qm4 h hs)]; rfl
theorem qd0 {a b : Nat} : (a &&& b == b) = (ndiff b a == 0) := by
 rw [Bool.eq_iff_iff, beq_iff_eq, beq_iff_eq, q2j];constructor
 ·intro h i hi;rw [<- h, Nat.testBit_and, aT] at hi; exact hi.1
 ·intro h;exact (Sub.and_right a b).antisymm fun i hi => by rw [Nat.testBit_and, h i hi, hi]; rfl
theorem qki (a b : Nat) : eqB (a : Int) (b : Int) = (a == b) := by
 by_cases h : a = b
 ·rw [h, q0k]; simp
 ·rw [q0r (by omega)]; simp [h]
theorem qu6 {lo hi : Config} (h : pairE lo hi = 0) {ill : Nat} (hill : ill < 2 ^ lo.Members.length) {l : List Nat} (hl : l.length <= 1024) (hm : ∀ s ∈ l, s < 2 ^ lo.Members.length) : ∀ (suf pre : List Nat), l = pre ++ suf ->
  z1x (ill : Int) ((pre.filter fun b => ndiff ill b == 0 && isB lo hi b).map Int.ofNat) (l.map Int.ofNat) ((l.length : Nat) : Int) ((pre.length : Nat) : Int) lo.Members hi.Members = some ((l.filter fun b => ndiff ill b == 0 && isB lo hi b).map Int.ofNat, 0)
 | [], pre, e => by
  rw [List.append_nil] at e;subst e;apply y2g;rw [q00 (Int.le_refl _)]; rfl
 | b :: suf, pre, e => by
  have hn := (q0p h).1.1;have hd : (l.map Int.ofNat).drop pre.length = (b : Int) :: suf.map Int.ofNat := q0u (by rw [e]; simp);have hlt : pre.length < l.length := by rw [e]; simp
  have hb := hm b (by rw [e]; simp);have hb' := q18 hn hb;have hi' := q18 hn hill;have hfl := List.length_filter_le (fun b => ndiff ill b == 0 && isB lo hi b) pre;have ih := qu6 h hill hl hm suf (pre ++ [b]) (by rw [e]; simp);rw [List.filter_append, List.map_append, List.length_append] at ih;apply y2g;rw [q02 (by omega)];simp only [cT, q05 hd];rw [q12 (by omega) (by omega), q4t, q01 (by omega)];cases h1 : (ndiff ill b == 0) with
  | false =>
   rw [List.filter_cons, h1] at ih;simp only [Bool.false_and, fT, if_false, List.filter_nil, List.map_nil, List.append_nil] at ih;exact ih
  | true =>
   simp only [cT];rw [show Config.mk lo.Members = lo from rfl, show Config.mk hi.Members = hi from rfl, y1j h hb];simp only [bS];cases h2 : isB lo hi b with
   | false =>
    rw [List.filter_cons, h1, h2] at ih;simp only [tA, fT, if_false, List.filter_nil, List.map_nil, List.append_nil] at ih;exact ih
   | true =>
    rw [List.filter_cons, h1, h2] at ih;simp only [tA, if_true, List.filter_nil] at ih;rw [q06 (by simp [q0f]; omega)];exact ih
theorem qub {lo hi : Config} (h : pairE lo hi = 0) {ill : Nat} (hill : ill < 2 ^ lo.Members.length) {l : List Nat} (hl : l.length <= 1024) (hm : ∀ s ∈ l, s < 2 ^ lo.Members.length) : ∀ (suf pre : List Nat), l = pre ++ suf ->
  z44 (ill : Int) ((pre.filter fun b => ndiff ill b == 0 && isB lo hi b).map Int.ofNat) (l.map Int.ofNat) ((l.length : Nat) : Int) ((pre.length : Nat) : Int) lo.Members hi.Members = some ((l.filter fun b => ndiff ill b == 0 && isB lo hi b).map Int.ofNat, 0)
 | [], pre, e => by
  rw [List.append_nil] at e;subst e;apply y3j;rw [q00 (Int.le_refl _)]; rfl
 | b :: suf, pre, e => by
  have hn := (q0p h).1.1;have hd : (l.map Int.ofNat).drop pre.length = (b : Int) :: suf.map Int.ofNat := q0u (by rw [e]; simp);have hlt : pre.length < l.length := by rw [e]; simp
  have hb := hm b (by rw [e]; simp);have hb' := q18 hn hb;have hi' := q18 hn hill;have hfl := List.length_filter_le (fun b => ndiff ill b == 0 && isB lo hi b) pre;have ih := qub h hill hl hm suf (pre ++ [b]) (by rw [e]; simp);rw [List.filter_append, List.map_append, List.length_append] at ih;apply y3j;rw [q02 (by omega)];simp only [cT, q05 hd];rw [q24 (by omega) (by omega), qki, qd0, q01 (by omega)];cases h1 : (ndiff ill b == 0) with
  | false =>
   rw [List.filter_cons, h1] at ih;simp only [Bool.false_and, fT, if_false, List.filter_nil, List.map_nil, List.append_nil] at ih;exact ih
  | true =>
   simp only [cT];rw [show Config.mk lo.Members = lo from rfl, show Config.mk hi.Members = hi from rfl, y0r h hb];simp only [bS];cases h2 : isB lo hi b with
   | false =>
    rw [List.filter_cons, h1, h2] at ih;simp only [tA, fT, if_false, List.filter_nil, List.map_nil, List.append_nil] at ih;exact ih
   | true =>
    rw [List.filter_cons, h1, h2] at ih;simp only [tA, if_true, List.filter_nil] at ih;rw [q06 (by simp [q0f]; omega)];exact ih
def allR (lo hi : Config) (z : Int) : List Int × Int := if dE lo hi z = 0 then ((alls lo hi z.toNat).map Int.ofNat, 0) else ([], dE lo hi z)
theorem qgq {c : Config} {s : Nat} (h : s ∈ q1l (full c)) : s < 2 ^ c.Members.length := qd6.2 (q0t.1 h)
theorem y4q {lo hi : Config} (hs : q0e lo) (hs' : q0e hi) (z : Int) : z64 lo hi z = some (allR lo hi z) := by
 apply y8p;rw [qfi hs hs'];simp only [bS, allR];by_cases h : dE lo hi z = 0
 ·obtain ⟨h0, s, rfl, hlt⟩ := q2t h;have hn := (q0p h0).1.1;rw [h, q0b, q41 hn];simp only [cF, bS];rw [qhl (q2l hn)];simp only [bS, List.length_map];exact qu6 h0 hlt (q4v (q2l hn)) (fun s hs => qgq hs) _ [] rfl
 ·rw [q0n h, if_neg h]; rfl
theorem y49 {lo hi : Config} (hs : q0e lo) (hs' : q0e hi) (z : Int) : z7j lo hi z = some (allR lo hi z) := by
 apply y8u;rw [qc6 hs hs'];simp only [bS, allR];by_cases h : dE lo hi z = 0
 ·obtain ⟨h0, s, rfl, hlt⟩ := q2t h;have hn := (q0p h0).1.1;rw [h, q0b, q44 hn];simp only [cF, bS];rw [qbh (q2l hn)];simp only [bS, List.length_map];exact qub h0 hlt (q4v (q2l hn)) (fun s hs => qgq hs) _ [] rfl
 ·rw [q0n h, if_neg h]; rfl
theorem qq8 {lo hi : Config} (h : pairE lo hi = 0) {s : Nat} (hs : s < 2 ^ lo.Members.length) : allR lo hi (s : Int) = ((alls lo hi s).map Int.ofNat, 0) := by
 unfold allR; rw [if_pos (qm4 h hs)]; rfl
theorem qr4 {lo hi : Config} (hn : lo.Members.length <= 10) (ill : Nat) : (alls lo hi ill).length <= 1024 :=
 Nat.le_trans (List.length_filter_le _ _) (q4v (q2l hn))
theorem qy0 {lo hi : Config} {ill s : Nat} (h : s ∈ alls lo hi ill) : s < 2 ^ lo.Members.length := qd6.2 (q8l.1 h).1
theorem qrk {hi : Config} (hw : ValidC hi) {v s : Nat} (hv : v < hi.Members.length) (hs : s < 2 ^ hi.Members.length) : z4i hi (v : Int) (s : Int) = some (q4n hi s v) := by
 have g : hi.Members[v]? = some hi.Members[v] := List.getElem?_eq_getElem hv;have hle := hw.1;have e := qah g (by omega);apply y9j;rw [q0y (by omega) (by rw [tN]; exact g)];unfold q4n;rw [e, qiq g];cases hd : hi.Members[v].Declared with
 | false => rfl
 | true =>
  simp only [nT, cF, Bool.false_or];rw [q41 hle];simp only [bS];rw [q7x hle hs, q3l (qba hle s) _ (q3e (hw.mem g hd).1)]; rfl
def ql9 (hi : Config) (s : Nat) (k : Int) : Bool := has (ndiff (full hi) s) k && q4n hi s k.toNat
theorem qpu {hi : Config} (hw : ValidC hi) {s : Nat} (hs : s < 2 ^ hi.Members.length) (k : Int) : z6r hi (s : Int) k = some (ql9 hi s k) := by
 have hle := hw.1;have hs' := q18 hle hs;apply yai;unfold ql9;by_cases h0 : k < 0
 ·rw [q02 h0];have : has (ndiff (full hi) s) k = false := by unfold has; rw [decide_eq_false (by omega)]; rfl
  rw [this]; rfl
 ·obtain ⟨v, rfl⟩ := Int.eq_ofNat_of_zero_le (show 0 <= k by omega);rw [q00 (by omega)];by_cases h1 : hi.Members.length <= v
  ·rw [q0d (by omega)];have : has (ndiff (full hi) s) (v : Int) = false := by
    cases hh : has (ndiff (full hi) s) (v : Int) with
    | false => rfl
    | true =>
     obtain ⟨n, e, _, hb⟩ := qfv hh;rw [q04, aT, q8c, dT'] at hb;have := Int.ofNat.inj e; omega
   rw [this]; rfl
  ·have hv : v < hi.Members.length := by omega
   have hfv : (full hi).testBit v = true := by rw [q8c, dT']; exact hv
   have g : hi.Members[v]? = some hi.Members[v] := List.getElem?_eq_getElem hv;have e := qah g (by omega);rw [q09 (by omega), q15 hs', q26 (by omega), q26 (by omega), q04, hfv];simp only [cF, bS, tN, tA];cases hb : s.testBit v with
   | true => rfl
   | false =>
    simp only [cF, Bool.not_false, tA];rw [q0y (by omega) (by rw [tN]; exact g)];unfold q4n;rw [e, qiq g];cases hd : hi.Members[v].Declared with
    | false => rfl
    | true =>
     simp only [nT, cF, Bool.false_or];rw [q0y (by omega) (by rw [tN]; exact g), q44 hle];simp only [bS];rw [qdi hle hs, q43 (qba hle s) _ (q3e (hw.mem g hd).1)]; rfl
def refT (r : Int × Int × Int × Int) : Refutation × Int := (⟨r.1, r.2.1, r.2.2.1⟩, r.2.2.2)
def refuR (lo hi : Config) (z : Int) : Refutation × Int := if dE lo hi z = 0 then refT (refR lo hi z.toNat) else (⟨0, 0, 0⟩, dE lo hi z)
theorem qsg {lo hi : Config} (_hv : ValidC lo) {s : Nat} (h : (nodes (ndiff (full hi) s)).find? (q4n hi s) = none) (e : Int) :
  (bif neB (disjR (delC s lo)).2.2 0 then some (Refutation.mk 0 0 0, if e = 0 then (disjR (delC s lo)).2.2 else 11) else some (Refutation.mk (-1) (disjR (delC s lo)).1 (disjR (delC s lo)).2.1, 0)) = some (refT (refR lo hi s)) := by
 unfold refR refT disjR;rw [h];cases twoB (delC s lo) with
 | true => rfl
 | false =>
  simp only [fT, if_false];rw [q0n (by decide)];simp
theorem qvz {lo hi : Config} (h : pairE lo hi = 0) {s : Nat} (hs : s < 2 ^ lo.Members.length) {d1 d2 d3 : Int} {l : List Nat} (hl : l.length <= 10) (hall : (l.find? (q4n hi s)) = (nodes (ndiff (full hi) s)).find? (q4n hi s)) (hm : ∀ v ∈ l, v < hi.Members.length) : ∀ (suf : List Nat) (i : Nat), l.drop i = suf -> suf.find? (q4n hi s) = l.find? (q4n hi s) ->
  z2a (s : Int) (l.map Int.ofNat) ((l.length : Nat) : Int) (i : Int) lo.Members hi.Members d1 d2 d3 = some (refT (refR lo hi s))
 | [], i, hd, hf => by
  obtain ⟨hv, hw, hlen, _, _⟩ := q0p h;have hno : (nodes (ndiff (full hi) s)).find? (q4n hi s) = none := by rw [<- hall, <- hf]; rfl
  apply y1x;rw [q0j hd, show Config.mk lo.Members = lo from rfl, qfm (q18 hv.1 hs) lo hv.bears];simp only [cF, bS];rw [qek (q11 s hv).small (q11 s hv).cerr];simp only [bS];have := qsg hv hno 0;simpa using this
 | v :: suf, i, hd, hf => by
  obtain ⟨hv, hw, hlen, _, _⟩ := q0p h;have hlt := q0g hd;have hvm := hm v (List.mem_of_mem_drop (by rw [hd]; exact List.mem_cons_self));apply y1x;rw [q08 hd];simp only [cT, q05 (q0u hd)];rw [show Config.mk hi.Members = hi from rfl, qrk hw hvm (by rw [<- hlen]; exact hs)];simp only [bS];cases hn : q4n hi s v with
  | true =>
   have : (nodes (ndiff (full hi) s)).find? (q4n hi s) = some v := by rw [<- hall, <- hf, List.find?_cons, hn]
   unfold refR refT;rw [this]; rfl
  | false =>
   simp only [cF];rw [q01 (by omega)];exact qvz h hs hl hall hm suf (i + 1) (q03 hd) (by rw [<- hf, List.find?_cons, hn])
theorem qt0 {lo hi : Config} (hs : q0e lo) (hs' : q0e hi) (z : Int) : z51 lo hi z = some (refuR lo hi z) := by
 apply y6g;rw [qfi hs hs'];simp only [bS, refuR];by_cases h : dE lo hi z = 0
 ·obtain ⟨h0, s, rfl, hlt⟩ := q2t h;obtain ⟨hv, hw, hlen, _, _⟩ := q0p h0;rw [h, q0b, q41 hw.1];simp only [cF, bS, if_true, tN];rw [q7x hw.1 (by rw [<- hlen]; exact hlt), qbq (qba hw.1 s)];simp only [bS, List.length_map];exact qvz h0 hlt (q59 _) rfl (fun v hv => by
   have := (q3a.1 hv).1;rw [q04, aT, q8c, dT'] at this;exact this.1) _ 0 rfl rfl
 ·rw [q0n h, if_neg h]; rfl
theorem qte {hi : Config} (hn : hi.Members.length <= 10) (s : Nat) (p : Nat -> Bool) : (nodes (ndiff (full hi) s)).find? p = (List.range' 0 hi.Members.length).find? fun v => (ndiff (full hi) s).testBit v && p v := by
 rw [qg0, List.find?_filter, List.range_eq_range'];have e10 : hi.Members.length + (10 - hi.Members.length) = 10 := by omega
 have key := List.range'_append (s := 0) (m := hi.Members.length) (n := 10 - hi.Members.length) (step := 1);rw [e10] at key;rw [<- key, List.find?_append];have : (List.range' (0 + 1 * hi.Members.length) (10 - hi.Members.length)).find? (fun a => decide ((ndiff (full hi) s).testBit a = true /\ p a = true)) = none := by
  rw [List.find?_eq_none];intro v hv;rw [List.mem_range'_1] at hv;have : (ndiff (full hi) s).testBit v = false := by rw [q04, q8c, decide_eq_false (by omega)]; rfl
  simp [this]
 rw [this, Option.or_none];congr 1
 funext v
 cases (ndiff (full hi) s).testBit v <;> cases p v <;> rfl
theorem quv {lo hi : Config} (h : pairE lo hi = 0) {s : Nat} (hs : s < 2 ^ lo.Members.length) {d1 d2 d3 : Int} : ∀ (n i : Nat), i + n = hi.Members.length -> (List.range' i n).find? (fun v => (ndiff (full hi) s).testBit v && q4n hi s v) = (nodes (ndiff (full hi) s)).find? (q4n hi s) ->
  z4e (s : Int) ((hi.Members.length : Nat) : Int) (i : Int) lo.Members hi.Members d1 d2 d3 = some (refT (refR lo hi s))
 | 0, i, hn, hf => by
  obtain ⟨hv, hw, hlen, _, _⟩ := q0p h;apply y1u;rw [q00 (by omega), show Config.mk lo.Members = lo from rfl, q4g (q18 hv.1 hs) lo hv.bears];simp only [cF, bS];rw [qej (q11 s hv).small (q11 s hv).cerr];simp only [bS];have := qsg hv (s := s) (hi := hi) (by rw [<- hf]; rfl) 1;simpa using this
 | n + 1, i, hn, hf => by
  obtain ⟨hv, hw, hlen, _, _⟩ := q0p h;have hle := hw.1;apply y1u;rw [q02 (by omega)];simp only [cT];rw [show Config.mk hi.Members = hi from rfl, qpu hw (by rw [<- hlen]; exact hs)];simp only [bS];have hst : ql9 hi s (i : Int) = ((ndiff (full hi) s).testBit i && q4n hi s i) := by unfold ql9; rw [q26 (by omega), tN]
  rw [hst];rw [List.range'_succ, List.find?_cons] at hf;cases hb : ((ndiff (full hi) s).testBit i && q4n hi s i) with
  | true =>
   rw [hb] at hf;unfold refR refT;rw [<- hf]; rfl
  | false =>
   rw [hb] at hf;simp only [cF];rw [q01 (by omega)];exact quv h hs n (i + 1) (by omega) hf
theorem qth {lo hi : Config} (hs : q0e lo) (hs' : q0e hi) (z : Int) : z6x lo hi z = some (refuR lo hi z) := by
 apply y76;rw [qc6 hs hs'];simp only [bS, refuR];by_cases h : dE lo hi z = 0
 ·obtain ⟨h0, s, rfl, hlt⟩ := q2t h;obtain ⟨hv, hw, hlen, _, _⟩ := q0p h0;rw [h, q0b];simp only [cF, if_true, tN];exact quv h0 hlt hi.Members.length 0 (by omega) (qte hw.1 s _).symm
 ·rw [q0n h, if_neg h]; rfl
theorem qfj {c : Config} (hc : q0e c) (z : Int) : z1u c z = some (quoZ c z) := by
 unfold quoZ;cases h : okS z with
 | true =>
  obtain ⟨s, rfl, hs⟩ := qrv h;rw [qaj hs hc]; rfl
 | false =>
  apply y3w;rw [q60, h]; rfl
theorem qfh {c : Config} (hc : q0e c) (z : Int) : z1q c z = some (quoZ c z) := by
 unfold quoZ;cases h : okS z with
 | true =>
  obtain ⟨s, rfl, hs⟩ := qrv h;rw [qd3 hs hc]; rfl
 | false =>
  apply qqu;rw [qgt, h]; rfl
theorem qcu {c : Config} {a b : Int} (ha : quoZ c a = true) (hb : quoZ c b = true) : eqB (andI .i64 a b) 0 = (a.toNat &&& b.toNat == 0) := by
 obtain ⟨s, rfl, hs⟩ := qxv ha;obtain ⟨t, rfl, ht⟩ := qxv hb;have := qq7 hs;have := qq7 ht;rw [q24 (by omega) (by omega), q4t]; rfl
def chkR (lo hi : Config) (z : Int) (x : Refutation) : Bool := dE lo hi z == 0 && chkB lo hi z.toNat x.Node x.A x.B
theorem qze {hi : Config} {s : Nat} {x : Int} (h : has (ndiff (full hi) s) x = true) : ∃ v : Nat, x = (v : Int) /\ v < hi.Members.length := by
 obtain ⟨v, rfl, _, hb⟩ := qfv h;rw [q04, aT, q8c, dT'] at hb;exact ⟨v, rfl, hb.1⟩
theorem qwj {lo hi : Config} (hs : q0e lo) (hs' : q0e hi) (z : Int) (x : Refutation) : z5e lo hi z x = some (chkR lo hi z x) := by
 apply y8c;rw [qfi hs hs'];simp only [bS, chkR];by_cases h : dE lo hi z = 0
 ·obtain ⟨h0, s, rfl, hlt⟩ := q2t h;obtain ⟨hv, hw, hlen, _, _⟩ := q0p h0;rw [h, q0b];simp only [cF, beq_self_eq_true, tA, tN, chkB];by_cases hx : 0 <= x.Node
  ·rw [q0d hx, if_pos hx];simp only [cT];by_cases hA : x.A = 0
   ·rw [hA, q0k];by_cases hB : x.B = 0
    ·rw [hB, q0k, q41 hw.1];simp only [cT, bS, decide_true, tA];rw [q7x hw.1 (by rw [<- hlen]; exact hlt), q13 (qba hw.1 s)];simp only [bS];cases hh : has (ndiff (full hi) s) x.Node with
     | false => rfl
     | true =>
      obtain ⟨v, ev, hvm⟩ := qze hh;rw [ev, qrk hw hvm (by rw [<- hlen]; exact hlt)]; rfl
    ·rw [q0r hB, decide_eq_false hB]; rfl
   ·rw [q0r hA, decide_eq_false hA]; rfl
  ·rw [q09 (by omega), if_neg hx, qfm (q18 hv.1 hlt) lo hv.bears];simp only [cF, bS];by_cases h1 : x.Node = -1
   ·rw [h1, q0k, qfj (q11 s hv).small, qfj (q11 s hv).small];simp only [cT, bS, decide_true, tA];cases hA : quoZ (delC s lo) x.A with
    | false => rfl
    | true =>
     simp only [cT, tA];cases hB : quoZ (delC s lo) x.B with
     | false => rfl
     | true => simp only [cT, tA, qcu hA hB]
   ·rw [q0r h1, decide_eq_false h1]; rfl
 ·rw [q0n h, beq_eq_false_iff_ne.2 h]; rfl
theorem qu3 {lo hi : Config} (hs : q0e lo) (hs' : q0e hi) (z : Int) (x : Refutation) : z78 lo hi z x = some (chkR lo hi z x) := by
 apply y63;rw [qc6 hs hs'];simp only [bS, chkR];by_cases h : dE lo hi z = 0
 ·obtain ⟨h0, s, rfl, hlt⟩ := q2t h;obtain ⟨hv, hw, hlen, _, _⟩ := q0p h0;rw [h, q0b];simp only [cF, beq_self_eq_true, tA, tN, chkB];by_cases h1 : x.Node = -1
  ·rw [h1, q0b, if_neg (by decide), q4g (q18 hv.1 hlt) lo hv.bears];simp only [cF, bS];rw [qfh (q11 s hv).small, qfh (q11 s hv).small];simp only [bS, decide_true, tA];cases hA : quoZ (delC s lo) x.A with
   | false => rfl
   | true =>
    simp only [cT, tA];cases hB : quoZ (delC s lo) x.B with
    | false => rfl
    | true => simp only [cT, tA, qcu hA hB]
  ·rw [q0n h1, qpu hw (by rw [<- hlen]; exact hlt)];simp only [cT, bS];unfold ql9;by_cases hx : 0 <= x.Node
   ·rw [if_pos hx];cases hh : (has (ndiff (full hi) s) x.Node && q4n hi s x.Node.toNat) with
    | false => simp
    | true =>
     simp only [cT];by_cases hA : x.A = 0
     ·rw [hA, q0k];by_cases hB : x.B = 0
      ·rw [hB, q0k]; rfl
      ·rw [q0r hB]; simp [hB]
     ·rw [q0r hA]; simp [hA]
   ·rw [if_neg hx, decide_eq_false h1];have : has (ndiff (full hi) s) x.Node = false := by unfold has; rw [decide_eq_false hx]; rfl
    rw [this]; rfl
 ·rw [q0n h, beq_eq_false_iff_ne.2 h]; rfl
theorem q3f {c : Config} (hn : c.Members.length <= 10) : z29 c = some ((full c : Nat) : Int) := by
 apply y7w;rw [q0m (by omega), q2r hn]; rfl
theorem q57 {c : Config} (hn : c.Members.length <= 10) : z3h c = some ((full c : Nat) : Int) := by
 apply y7f;rw [q0m (by omega), q2r hn]; rfl
def inta (lo hi : Config) (ill : Nat) : Nat := ndiff (full lo) (bef lo hi ill)
theorem qff (lo hi : Config) (ill : Nat) : Sub (inta lo hi ill) (full lo) := fun i hi => by
 unfold inta at hi;rw [q04, aT] at hi; exact hi.1
theorem qgm {a b : Nat} (h : Sub b a) : ndiff a (ndiff a b) = b := by
 apply Nat.eq_of_testBit_eq;intro i;rw [q04, q04];cases hb : b.testBit i with
 | true => rw [h i hb]; rfl
 | false => cases a.testBit i <;> rfl
theorem qkg (lo hi : Config) (ill : Nat) : Sub (bef lo hi ill) (full lo) := by
 unfold bef; split
 ·exact Sub.refl _
 ·exact (qq3 _ _).1
def ofR (lo hi : Config) (z : Int) : Int × Bool × Int := if dE lo hi z = 0 then (((inta lo hi z.toNat : Nat) : Int), !q2v lo z.toNat, 0) else (0, false, dE lo hi z)
theorem y1o {lo hi : Config} (hn : lo.Members.length <= 10) {l : List Nat} (hl : l.length <= 1024) (hlt : ∀ s ∈ l, s < 1024) : ∀ (suf : List Nat) (i a : Nat), l.drop i = suf -> a < 1024 ->
  z5w (a : Int) (l.map Int.ofNat) ((l.length : Nat) : Int) (i : Int) lo.Members hi.Members = some (((ndiff (full lo) (ands suf a) : Nat) : Int), true, 0)
 | [], i, a, h, ha => by
  have hf := q2l hn;apply y2q;rw [q0j h, show Config.mk lo.Members = lo from rfl, q3f hn];simp only [cF, bS];rw [q12 (by omega) (by omega)]; rfl
 | b :: suf, i, a, h, ha => by
  have h1 := q0g h;have hb := hlt b (List.mem_of_mem_drop (by rw [h]; exact List.mem_cons_self));apply y2q;rw [q08 h];simp only [cT, q05 (q0u h)];rw [q24 (by omega) (by omega), q01 (by omega)];exact y1o hn hl hlt suf (i + 1) (a &&& b) (q03 h) (qh3 ha)
theorem qxs {lo hi : Config} (hs : q0e lo) (hs' : q0e hi) (z : Int) : z6s lo hi z = some (ofR lo hi z) := by
 apply y9f;rw [y4q hs hs'];simp only [bS, ofR];by_cases h : dE lo hi z = 0
 ·obtain ⟨h0, s, rfl, hlt⟩ := q2t h;obtain ⟨hv, hw, hlen, _, _⟩ := q0p h0;rw [qq8 h0 hlt, qhb hs, q5s hv hlt, if_pos h];simp only [bS, q0b, cF, Bool.not_not, tN];cases hsp : q2v lo s with
  | true =>
   have : inta lo hi s = 0 := by unfold inta bef; rw [hsp]; exact q2j.2 (Sub.refl _)
   rw [this]; rfl
  | false =>
   simp only [cF];rw [q3f hv.1];simp only [bS, List.length_map];have := y1o (hi := hi) hv.1 (qr4 (hi := hi) hv.1 s) (fun x hx => q18 hv.1 (qy0 hx)) (alls lo hi s) 0 (full lo) rfl (q2l hv.1);refine Eq.trans this ?_;unfold inta bef;rw [hsp]; rfl
 ·have : (allR lo hi z) = ([], dE lo hi z) := by unfold allR; rw [if_neg h]
  rw [this, if_neg h, q0n h]; rfl
def oneR (lo hi : Config) (f : Nat -> Nat) (z : Int) : Int × Int := if dE lo hi z = 0 then (((f z.toNat : Nat) : Int), 0) else (0, dE lo hi z)
theorem qr3 {lo hi : Config} (hs : q0e lo) (hs' : q0e hi) (z : Int) : z5h lo hi z = some (oneR lo hi (inta lo hi) z) := by
 apply y7h;rw [qxs hs hs'];simp only [bS, ofR, oneR];split <;> rfl
theorem qu7 {lo hi : Config} (hs : q0e lo) (hs' : q0e hi) (z : Int) : z41 lo hi z = some (oneR lo hi (bef lo hi) z) := by
 apply y92;rw [qxs hs hs'];simp only [bS, ofR, oneR];by_cases h : dE lo hi z = 0
 ·obtain ⟨h0, s, rfl, hlt⟩ := q2t h;obtain ⟨hv, hw, hlen, _, _⟩ := q0p h0;have hf := q2l hv.1;have hi' := (qff lo hi s).lt hf;rw [if_pos h, if_pos h];simp only [q0b, cF, tN];rw [q3f hv.1];simp only [bS];rw [q12 (by omega) (by omega)];unfold inta;rw [qgm (qkg lo hi s)]
 ·rw [if_neg h, if_neg h];simp only [q0n h, cT]
theorem qnr {lo hi : Config} (hs : q0e lo) (hs' : q0e hi) (z : Int) : z6o lo hi z = some (dE lo hi z) := by
 apply yad;rw [qmx hs hs'];simp only [bS, dE];by_cases h : pairE lo hi = 0
 ·obtain ⟨hv, _, _, _, _⟩ := q0p h;rw [h, q0b];simp only [cF, if_true, askE];rw [hv.cerr, if_neg (by simp)];by_cases h0 : z < 0
  ·rw [q02 h0, if_pos h0]; rfl
  ·rw [q00 (by omega), if_neg h0, q57 hv.1];simp only [cF, bS, full];by_cases h1 : ((2 ^ lo.Members.length - 1 : Nat) : Int) < z
   ·rw [q02 h1, if_pos h1]; rfl
   ·rw [q00 (by omega), if_neg h1]; rfl
 ·rw [q0n h, if_neg h]; rfl
theorem qvd {lo hi : Config} {l : List Nat} (hl : l.length <= 1024) (hlt : ∀ s ∈ l, s < 1024) : ∀ (suf : List Nat) (i a : Nat), l.drop i = suf -> a < 1024 ->
  z3b (a : Int) (l.map Int.ofNat) ((l.length : Nat) : Int) (i : Int) lo.Members hi.Members = some (((ands suf a : Nat) : Int), 0)
 | [], i, a, h, ha => by
  apply y0z;rw [q0j h]; rfl
 | b :: suf, i, a, h, ha => by
  have h1 := q0g h;have hb := hlt b (List.mem_of_mem_drop (by rw [h]; exact List.mem_cons_self));apply y0z;rw [q08 h];simp only [cT, q05 (q0u h)];rw [q24 (by omega) (by omega), q01 (by omega)];exact qvd hl hlt suf (i + 1) (a &&& b) (q03 h) (qh3 ha)
theorem qpk {lo hi : Config} (hs : q0e lo) (hs' : q0e hi) (z : Int) : z4q lo hi z = some (oneR lo hi (bef lo hi) z) := by
 apply y6p;rw [qnr hs hs'];simp only [bS, oneR];by_cases h : dE lo hi z = 0
 ·obtain ⟨h0, s, rfl, hlt⟩ := q2t h;obtain ⟨hv, hw, hlen, _, _⟩ := q0p h0;rw [h, q0b, q57 hv.1];simp only [cF, bS, if_true, tN];rw [qhy hs, q5s hv hlt];simp only [bS, Bool.not_not];cases hsp : q2v lo s with
  | true => unfold bef; rw [hsp]; rfl
  | false =>
   simp only [cF];rw [y49 hs hs', qq8 h0 hlt];simp only [bS, List.length_map];refine (qvd (qr4 (hi := hi) hv.1 s) (fun x hx => q18 hv.1 (qy0 hx)) (alls lo hi s) 0 (full lo) rfl (q2l hv.1)).trans ?_;unfold bef; rw [hsp]; rfl
 ·rw [if_neg h, q0n h]; rfl
theorem y3t {lo hi : Config} (hs : q0e lo) (hs' : q0e hi) (z : Int) : z7h lo hi z = some (oneR lo hi (inta lo hi) z) := by
 apply y75;rw [qpk hs hs'];simp only [bS, oneR];by_cases h : dE lo hi z = 0
 ·obtain ⟨h0, s, rfl, hlt⟩ := q2t h;obtain ⟨hv, hw, hlen, _, _⟩ := q0p h0;rw [if_pos h, if_pos h];simp only [q0b, cF, tN];rw [q57 hv.1];simp only [bS];rw [qdi hv.1 (qd6.2 (qkg lo hi s))]; rfl
 ·rw [if_neg h, if_neg h];simp only [q0n h, cT]
theorem qjp {lo hi : Config} (h : pairE lo hi = 0) {s : Nat} (hs : s < 2 ^ lo.Members.length) (f : Nat -> Nat) : oneR lo hi f (s : Int) = (((f s : Nat) : Int), 0) := by
 unfold oneR; rw [if_pos (qm4 h hs)]; rfl
def folN (lo hi : Config) (ill s : Nat) : Option Nat := (nodes (ndiff (inta lo hi ill) s)).find? fun v => blk lo v (inta lo hi ill &&& s)
def folT : Option Nat -> Int × Bool × Int
 | some v => ((v : Int), true, 0)
 | none => (-1, false, 0)
def folR (lo hi : Config) (z s : Int) : Int × Bool × Int :=
 if dE lo hi z = 0 then (if s < 0 then (0, false, 1) else if ((full lo : Nat) : Int) < s then (0, false, 1) else folT (folN lo hi z.toNat s.toNat)) else (0, false, dE lo hi z)
theorem qw5 {lo hi : Config} (hs : q0e lo) {a s : Nat} (ha : a < 1024) (hs' : s < 1024) {l : List Nat} (hl : l.length <= 10) : ∀ (suf : List Nat) (i : Nat), l.drop i = suf ->
  z39 (s : Int) (a : Int) (l.map Int.ofNat) ((l.length : Nat) : Int) (i : Int) lo.Members hi.Members = some (folT (suf.find? fun v => blk lo v (a &&& s)))
 | [], i, h => by
  apply y0h;rw [q0j h]; rfl
 | v :: suf, i, h => by
  have h1 := q0g h;apply y0h;rw [q08 h];simp only [cT, q05 (q0u h)];rw [q24 (by omega) (by omega), show Config.mk lo.Members = lo from rfl, qsv hs (qh3 ha)];simp only [bS, List.find?_cons];cases blk lo v (a &&& s) with
  | true => rfl
  | false =>
   simp only [cF];rw [q01 (by omega)];exact qw5 hs ha hs' hl suf (i + 1) (q03 h)
theorem qvu {lo hi : Config} (hs : q0e lo) {a s : Nat} (ha : a < 1024) (hs' : s < 1024) {l : List Nat} (hl : l.length <= 10) : ∀ (suf : List Nat) (i : Nat), l.drop i = suf ->
  z3r (s : Int) (a : Int) (l.map Int.ofNat) ((l.length : Nat) : Int) (i : Int) lo.Members hi.Members = some (folT (suf.find? fun v => blk lo v (a &&& s)))
 | [], i, h => by
  apply y3u;rw [q0j h]; rfl
 | v :: suf, i, h => by
  have h1 := q0g h;apply y3u;rw [q08 h];simp only [cT, q05 (q0u h)];rw [q24 (by omega) (by omega), Nat.and_comm s a, show Config.mk lo.Members = lo from rfl, qox hs (qh3 ha)];simp only [bS, List.find?_cons];cases blk lo v (a &&& s) with
  | true => rfl
  | false =>
   simp only [cF];rw [q01 (by omega)];exact qvu hs ha hs' hl suf (i + 1) (q03 h)
theorem qw3 {lo hi : Config} (hs : q0e lo) (hs' : q0e hi) (z s : Int) : z5p lo hi z s = some (folR lo hi z s) := by
 apply y69;rw [qr3 hs hs'];simp only [bS, folR, oneR];by_cases h : dE lo hi z = 0
 ·obtain ⟨h0, ill, rfl, hlt⟩ := q2t h;obtain ⟨hv, hw, hlen, _, _⟩ := q0p h0;rw [if_pos h, if_pos h];simp only [q0b, cF, tN];by_cases s0 : s < 0
  ·rw [q02 s0, if_pos s0]; rfl
  ·rw [q00 (by omega), if_neg s0, q3f hv.1];simp only [cF, bS];by_cases s1 : ((full lo : Nat) : Int) < s
   ·rw [q02 s1, if_pos s1]; rfl
   ·obtain ⟨t, rfl⟩ := Int.eq_ofNat_of_zero_le (show 0 <= s by omega);have hf := q2l hv.1;have ha := (qff lo hi ill).lt hf;rw [q00 (by omega), if_neg s1, q12 (by omega) (by omega), qbq (q20 ha)];simp only [cF, bS, List.length_map];exact qw5 hs ha (by omega) (q59 _) _ 0 rfl
 ·rw [if_neg h, if_neg h];simp only [q0n h, cT]
theorem y4n {lo hi : Config} (hs : q0e lo) (hs' : q0e hi) (z s : Int) : z6l lo hi z s = some (folR lo hi z s) := by
 apply y8y;rw [y3t hs hs'];simp only [bS, folR, oneR];by_cases h : dE lo hi z = 0
 ·obtain ⟨h0, ill, rfl, hlt⟩ := q2t h;obtain ⟨hv, hw, hlen, _, _⟩ := q0p h0;rw [if_pos h, if_pos h];simp only [q0b, cF, tN];by_cases s0 : s < 0
  ·rw [q02 s0, if_pos s0]; rfl
  ·rw [q00 (by omega), if_neg s0, q57 hv.1];simp only [cF, bS];by_cases s1 : ((full lo : Nat) : Int) < s
   ·rw [q02 s1, if_pos s1]; rfl
   ·obtain ⟨t, rfl⟩ := Int.eq_ofNat_of_zero_le (show 0 <= s by omega);have hf := q2l hv.1;have ha := (qff lo hi ill).lt hf;rw [q00 (by omega), if_neg s1, q12 (by omega) (by omega), qjw (q20 ha)];simp only [cF, bS, List.length_map];exact qvu hs ha (by omega) (q59 _) _ 0 rfl
 ·rw [if_neg h, if_neg h];simp only [q0n h, cT]
def btw (c : Config) (ill v : Nat) : List Nat := (q1l (full c)).filter fun b => ndiff ill b == 0 && !b.testBit v
theorem qwg {c : Config} {ill v b : Nat} : b ∈ btw c ill v ↔ Sub b (full c) /\ Sub ill b /\ b.testBit v = false := by
 unfold btw;rw [List.mem_filter, q0t, aT, beq_iff_eq, q2j, Bool.not_eq_true']
theorem y65 {c : Config} {ill v : Nat} : (q1l (ndiff (full c) (2 ^ v))).filter (fun b => ndiff ill b == 0) = btw c ill v := by
 refine qda ((q2x _).sublist List.filter_sublist) ((q2x _).sublist List.filter_sublist) fun s => ?_
 rw [qwg, List.mem_filter, q0t, beq_iff_eq, q2j];constructor
 ·rintro ⟨h1, h2⟩;have hs : ∀ i, s.testBit i = true -> (full c).testBit i = true /\ ¬ v = i := fun i hi => by
   have := h1 i hi;rw [q04, q7u, aT, Bool.not_eq_true', decide_eq_false_iff_not] at this; exact this
  refine ⟨fun i hi => (hs i hi).1, h2, ?_⟩;cases hv : s.testBit v with
  | false => rfl
  | true => exact absurd rfl (hs v hv).2
 ·rintro ⟨h1, h2, h3⟩;refine ⟨fun i hi => ?_, h2⟩;rw [q04, q7u, h1 i hi];have : v ≠ i := fun e => by rw [<- e, h3] at hi; cases hi
  simp [this]
theorem qhf {c : Config} (hn : c.Members.length <= 10) (ill v : Nat) : (btw c ill v).length <= 1024 := Nat.le_trans (List.length_filter_le _ _) (q4v (q2l hn))
theorem y3s {c : Config} {ill v b : Nat} (h : b ∈ btw c ill v) : b < 2 ^ c.Members.length := qd6.2 (qwg.1 h).1
theorem qw7 {ms : List Member} {ill : Nat} (hill : ill < 1024) {l : List Nat} (hl : l.length <= 1024) (hm : ∀ s ∈ l, s < 1024) : ∀ (suf pre : List Nat), l = pre ++ suf ->
  z2o (ill : Int) ((pre.filter fun b => ndiff ill b == 0).map Int.ofNat) (l.map Int.ofNat) ((l.length : Nat) : Int) ((pre.length : Nat) : Int) ms = some ((l.filter fun b => ndiff ill b == 0).map Int.ofNat)
 | [], pre, e => by
  rw [List.append_nil] at e;subst e;apply y1r;rw [q00 (Int.le_refl _)]; rfl
 | b :: suf, pre, e => by
  have hd : (l.map Int.ofNat).drop pre.length = (b : Int) :: suf.map Int.ofNat := q0u (by rw [e]; simp);have hlt : pre.length < l.length := by rw [e]; simp
  have hb := hm b (by rw [e]; simp);have hfl := List.length_filter_le (fun b => ndiff ill b == 0) pre;have ih := qw7 (ms := ms) hill hl hm suf (pre ++ [b]) (by rw [e]; simp);rw [List.filter_append, List.map_append, List.length_append] at ih;apply y1r;rw [q02 (by omega)];simp only [cT, q05 hd];rw [q12 (by omega) (by omega), q4t, q01 (by omega)];cases h1 : (ndiff ill b == 0) with
  | false =>
   rw [List.filter_cons, h1] at ih;simp only [fT, if_false, List.filter_nil, List.map_nil, List.append_nil] at ih;exact ih
  | true =>
   rw [List.filter_cons, h1] at ih;simp only [if_true, List.filter_nil] at ih;simp only [cT];rw [q06 (by simp [q0f]; omega)];exact ih
theorem qxo {c : Config} (hn : c.Members.length <= 10) {ill v : Nat} (hill : ill < 1024) (hv : v < 10) : z5n c (ill : Int) (v : Int) = some ((btw c ill v).map Int.ofNat) := by
 have hf := q2l hn;have hp := qdl hv;apply y7l;rw [q0m (by omega), q3f hn];simp only [bS];rw [shl1 (by omega) (by omega), tN, q12 (by omega) (by omega), qhl (q20 hf)];simp only [bS, List.length_map];rw [<- y65];exact qw7 hill (q4v (q20 hf)) (fun s hs => (q0t.1 hs).lt (q20 hf)) _ [] rfl
theorem qx7 {ms : List Member} {ill v : Nat} (hill : ill < 1024) (hv : v < 10) {l : List Nat} (hl : l.length <= 1024) (hm : ∀ s ∈ l, s < 1024) : ∀ (suf pre : List Nat), l = pre ++ suf ->
  z2j (ill : Int) (v : Int) ((pre.filter fun b => ndiff ill b == 0 && !b.testBit v).map Int.ofNat) (l.map Int.ofNat) ((l.length : Nat) : Int) ((pre.length : Nat) : Int) ms = some ((l.filter fun b => ndiff ill b == 0 && !b.testBit v).map Int.ofNat)
 | [], pre, e => by
  rw [List.append_nil] at e;subst e;apply y3k;rw [q00 (Int.le_refl _)]; rfl
 | b :: suf, pre, e => by
  have hd : (l.map Int.ofNat).drop pre.length = (b : Int) :: suf.map Int.ofNat := q0u (by rw [e]; simp);have hlt : pre.length < l.length := by rw [e]; simp
  have hb := hm b (by rw [e]; simp);have hfl := List.length_filter_le (fun b => ndiff ill b == 0 && !b.testBit v) pre;have ih := qx7 (ms := ms) hill hv hl hm suf (pre ++ [b]) (by rw [e]; simp);rw [List.filter_append, List.map_append, List.length_append] at ih;apply y3k;rw [q02 (by omega)];simp only [cT, q05 hd];rw [q24 (by omega) (by omega), qki, qd0, q01 (by omega)];cases h1 : (ndiff ill b == 0) with
  | false =>
   rw [List.filter_cons, h1] at ih;simp only [Bool.false_and, fT, if_false, List.filter_nil, List.map_nil, List.append_nil] at ih;exact ih
  | true =>
   simp only [cT];have hsm : b >>> v < 2 ^ 62 := by
    have := Nat.shiftRight_le b v;omega
   rw [q0m (by omega), qkl b v (by omega), show (1 : Int) = ((1 : Nat) : Int) from rfl, q24 hsm (by decide), q80];cases h2 : b.testBit v with
   | true =>
    rw [List.filter_cons, h1, h2] at ih;simp only [tA, nT, fT, if_false, List.filter_nil, List.map_nil, List.append_nil] at ih;exact ih
   | false =>
    rw [List.filter_cons, h1, h2] at ih;simp only [tA, Bool.not_false, if_true, List.filter_nil] at ih;simp only [fT, if_false];rw [show eqB ((0 : Nat) : Int) 0 = true from rfl];simp only [cT];rw [q06 (by simp [q0f]; omega)];exact ih
theorem qxl {c : Config} (hn : c.Members.length <= 10) {ill v : Nat} (hill : ill < 1024) (hv : v < 10) : z62 c (ill : Int) (v : Int) = some ((btw c ill v).map Int.ofNat) := by
 have hf := q2l hn;apply y64;rw [q57 hn];simp only [bS];rw [qbh hf];simp only [bS, List.length_map];exact qx7 hill hv (q4v hf) (fun s hs => (q0t.1 hs).lt hf) _ [] rfl
def refs (lo hi : Config) (l : List Nat) : List Refutation := l.map fun b => (refT (refR lo hi b)).1
def expN (lo hi : Config) (ill v : Nat) : Explanation :=
 if (inta lo hi ill).testBit v then ⟨1, ((bef lo hi ill : Nat) : Int), 0, 0, []⟩
 else if q2v lo ill then ⟨2, 0, ((apart (delC ill lo)).1 : Int), ((apart (delC ill lo)).2 : Int), []⟩
 else if ill.testBit v then ⟨3, 0, 0, 0, []⟩ else ⟨4, 0, 0, 0, refs lo hi (btw lo ill v)⟩
def expR (lo hi : Config) (z v : Int) : Explanation × Int :=
 if dE lo hi z = 0 then (if v < 0 then (⟨0, 0, 0, 0, []⟩, 5) else if ((lo.Members.length : Nat) : Int) <= v then (⟨0, 0, 0, 0, []⟩, 5) else (expN lo hi z.toNat v.toNat, 0)) else (⟨0, 0, 0, 0, []⟩, dE lo hi z)
theorem qv3 {lo hi : Config} (h0 : pairE lo hi = 0) {d1 d2 d3 d4 : Int} {d5 : List Refutation} {l : List Nat} (hl : l.length <= 1024) (hm : ∀ s ∈ l, s < 2 ^ lo.Members.length) : ∀ (suf pre : List Nat), l = pre ++ suf ->
  z37 (l.map Int.ofNat) ((l.length : Nat) : Int) ((pre.length : Nat) : Int) lo.Members hi.Members d1 d2 d3 d4 d5 4 0 0 0 (refs lo hi pre) = some (⟨4, 0, 0, 0, refs lo hi l⟩, 0)
 | [], pre, e => by
  rw [List.append_nil] at e;subst e;apply y2b;rw [q00 (Int.le_refl _)]; rfl
 | b :: suf, pre, e => by
  obtain ⟨hv, hw, _, _, _⟩ := q0p h0;have hd : (l.map Int.ofNat).drop pre.length = (b : Int) :: suf.map Int.ofNat := q0u (by rw [e]; simp);have hlt : pre.length < l.length := by rw [e]; simp
  have hb := hm b (by rw [e]; simp);have ih := qv3 h0 (d1 := d1) (d2 := d2) (d3 := d3) (d4 := d4) (d5 := d5) hl hm suf (pre ++ [b]) (by rw [e]; simp);apply y2b;rw [q02 (by omega)];simp only [cT, q05 hd];rw [show Config.mk lo.Members = lo from rfl, show Config.mk hi.Members = hi from rfl, qt0 hv.small hw.small, refuR, if_pos (qm4 h0 hb), tN];simp only [bS];rw [q06 (by simp [q0f, refs]; omega), q01 (by omega)];have e2 : refs lo hi (pre ++ [b]) = refs lo hi pre ++ [(refT (refR lo hi b)).1] := by unfold refs; simp
  rw [List.length_append, e2] at ih;exact ih
theorem qug {lo hi : Config} (h0 : pairE lo hi = 0) {d1 d2 d3 d4 : Int} {d5 : List Refutation} {l : List Nat} (hl : l.length <= 1024) (hm : ∀ s ∈ l, s < 2 ^ lo.Members.length) : ∀ (suf pre : List Nat), l = pre ++ suf ->
  z3s (l.map Int.ofNat) ((l.length : Nat) : Int) ((pre.length : Nat) : Int) lo.Members hi.Members d1 d2 d3 d4 d5 4 0 0 0 (refs lo hi pre) = some (⟨4, 0, 0, 0, refs lo hi l⟩, 0)
 | [], pre, e => by
  rw [List.append_nil] at e;subst e;apply y3c;rw [q00 (Int.le_refl _)]; rfl
 | b :: suf, pre, e => by
  obtain ⟨hv, hw, _, _, _⟩ := q0p h0;have hd : (l.map Int.ofNat).drop pre.length = (b : Int) :: suf.map Int.ofNat := q0u (by rw [e]; simp);have hlt : pre.length < l.length := by rw [e]; simp
  have hb := hm b (by rw [e]; simp);have ih := qug h0 (d1 := d1) (d2 := d2) (d3 := d3) (d4 := d4) (d5 := d5) hl hm suf (pre ++ [b]) (by rw [e]; simp);apply y3c;rw [q02 (by omega)];simp only [cT, q05 hd];rw [show Config.mk lo.Members = lo from rfl, show Config.mk hi.Members = hi from rfl, qth hv.small hw.small, refuR, if_pos (qm4 h0 hb), tN];simp only [bS];rw [q06 (by simp [q0f, refs]; omega), q01 (by omega)];have e2 : refs lo hi (pre ++ [b]) = refs lo hi pre ++ [(refT (refR lo hi b)).1] := by unfold refs; simp
  rw [List.length_append, e2] at ih;exact ih
theorem y5n {lo hi : Config} {ill v : Nat} (hv : v < lo.Members.length) : (bef lo hi ill).testBit v = !(inta lo hi ill).testBit v := by
 unfold inta;rw [q04, q8c, decide_eq_true hv]; simp
theorem qit {lo : Config} {ill : Nat} (h : q2v lo ill = true) : disjR (delC ill lo) = (((apart (delC ill lo)).1 : Int), ((apart (delC ill lo)).2 : Int), 0) := by
 unfold disjR; unfold q2v at h; rw [h]; rfl
theorem qvn {lo : Config} {ill : Nat} (h : q2v lo ill = false) : disjR (delC ill lo) = (0, 0, 11) := by
 unfold disjR; unfold q2v at h; rw [h]; rfl
theorem qy1 {lo hi : Config} (hs : q0e lo) (hs' : q0e hi) (z v : Int) : z5m lo hi z v = some (expR lo hi z v) := by
 apply y5z;rw [qxs hs hs'];simp only [bS, expR, ofR];by_cases h : dE lo hi z = 0
 ·obtain ⟨h0, ill, rfl, hlt⟩ := q2t h;obtain ⟨hv, hw, hlen, _, _⟩ := q0p h0;have hle := hv.1;have hill := q18 hv.1 hlt;rw [if_pos h, if_pos h];simp only [q0b, cF, tN];by_cases v0 : v < 0
  ·rw [q02 v0, if_pos v0]; rfl
  ·obtain ⟨k, rfl⟩ := Int.eq_ofNat_of_zero_le (show 0 <= v by omega);rw [q00 (by omega), if_neg v0];by_cases v1 : ((lo.Members.length : Nat) : Int) <= (k : Int)
   ·rw [q0d v1, if_pos v1]; rfl
   ·have hk : k < lo.Members.length := by omega
    have ha := (qff lo hi ill).lt (q2l hv.1);rw [q09 (by omega), if_neg v1, q13 ha, q26 (by omega)];simp only [cF, bS, tN, expN, Bool.not_not];cases hb : (inta lo hi ill).testBit k with
    | true =>
     have hf := q2l hv.1;simp only [cT, if_true];rw [q3f hv.1];simp only [bS];rw [q12 (by omega) (by omega)];unfold inta;rw [qgm (qkg lo hi ill)]
    | false =>
     simp only [cF, fT, if_false];cases hsp : q2v lo ill with
     | true =>
      simp only [cT, if_true];rw [qfm hill lo hv.bears];simp only [bS];rw [qek (q11 ill hv).small (q11 ill hv).cerr, qit hsp]; rfl
     | false =>
      simp only [cF, fT, if_false];rw [q13 hill, q26 (by omega)];simp only [bS];cases hil : ill.testBit k with
      | true => rfl
      | false =>
       simp only [cF, fT, if_false];rw [qxo hv.1 hill (by omega)];simp only [bS, List.length_map];exact qv3 h0 (qhf hv.1 ill k) (fun s hs => y3s hs) _ [] rfl
 ·rw [if_neg h, if_neg h];simp only [q0n h, cT]
theorem qwx {lo hi : Config} (hs : q0e lo) (hs' : q0e hi) (z v : Int) : z61 lo hi z v = some (expR lo hi z v) := by
 apply y93;rw [qpk hs hs'];simp only [bS, expR, oneR];by_cases h : dE lo hi z = 0
 ·obtain ⟨h0, ill, rfl, hlt⟩ := q2t h;obtain ⟨hv, hw, hlen, _, _⟩ := q0p h0;have hle := hv.1;have hill := q18 hv.1 hlt;rw [if_pos h, if_pos h];simp only [q0b, cF, tN];by_cases v0 : v < 0
  ·rw [q02 v0, if_pos v0]; rfl
  ·obtain ⟨k, rfl⟩ := Int.eq_ofNat_of_zero_le (show 0 <= v by omega);rw [q00 (by omega), if_neg v0];by_cases v1 : ((lo.Members.length : Nat) : Int) <= (k : Int)
   ·rw [q0d v1, if_pos v1]; rfl
   ·have hk : k < lo.Members.length := by omega
    have hb' := (qkg lo hi ill).lt (q2l hv.1);rw [q09 (by omega), if_neg v1, q15 hb', q26 (by omega), y5n hk];simp only [cF, bS, tN, expN, Bool.not_not];cases hb : (inta lo hi ill).testBit k with
    | true => rfl
    | false =>
     simp only [cF, fT, if_false];rw [q4g hill lo hv.bears];simp only [bS];rw [qej (q11 ill hv).small (q11 ill hv).cerr];simp only [bS];cases hsp : q2v lo ill with
     | true => rw [qit hsp]; rfl
     | false =>
      rw [qvn hsp, q0r (by decide)];simp only [cF, fT, if_false];rw [q15 hill, q26 (by omega)];simp only [bS];cases hil : ill.testBit k with
      | true => rfl
      | false =>
       simp only [cF, fT, if_false];rw [qxl hv.1 hill (by omega)];simp only [bS, List.length_map];exact qug h0 (qhf hv.1 ill k) (fun s hs => y3s hs) _ [] rfl
 ·rw [if_neg h, if_neg h];simp only [q0n h, cT]
def qfb (lo hi : Config) (l : List Nat) (rs : List Refutation) : Bool := decide (rs.length = l.length) && (l.zip rs).all fun p => chkR lo hi (p.1 : Int) p.2
theorem qr5 {lo hi : Config} (hs : q0e lo) (hs' : q0e hi) {l : List Nat} {rs : List Refutation} (hl : l.length <= 1024) (hr : rs.length = l.length) : ∀ (suf : List Nat) (sr : List Refutation) (i : Nat), l.drop i = suf -> rs.drop i = sr ->
  z38 rs (l.map Int.ofNat) ((l.length : Nat) : Int) (i : Int) lo.Members hi.Members = some ((suf.zip sr).all fun p => chkR lo hi (p.1 : Int) p.2)
 | [], sr, i, h, h' => by
  apply y3f;rw [q0j h]; rfl
 | b :: suf, [], i, h, h' => by
  have h1 := q0g h;have := List.drop_eq_nil_iff.1 h';omega
 | b :: suf, r :: sr, i, h, h' => by
  have h1 := q0g h;have ih := qr5 hs hs' hl hr suf sr (i + 1) (q03 h) (q03 h');apply y3f;rw [q08 h];simp only [cT, q05 (q0u h), q05 h'];rw [show Config.mk lo.Members = lo from rfl, show Config.mk hi.Members = hi from rfl, qwj hs hs', q01 (by omega), ih];simp only [bS, List.zip_cons_cons, List.all_cons];cases chkR lo hi (b : Int) r <;> rfl
theorem qyy {lo hi : Config} (hs : q0e lo) (hs' : q0e hi) (hn : lo.Members.length <= 10) {ill v : Nat} (hill : ill < 1024) (hv : v < 10) {rs : List Refutation} : z6a lo hi (ill : Int) (v : Int) rs = some (qfb lo hi (btw lo ill v) rs) := by
 apply y9q;rw [qxo hn hill hv];simp only [bS, qfb, List.length_map];by_cases h : rs.length = (btw lo ill v).length
 ·rw [qry (by omega), decide_eq_true h];simp only [cF, tA];exact qr5 hs hs' (qhf hn ill v) h _ _ 0 rfl rfl
 ·rw [q0n (by omega), decide_eq_false h]; rfl
theorem qvg {lo hi : Config} (hs : q0e lo) (hs' : q0e hi) {l : List Nat} {rs : List Refutation} (hl : l.length <= 1024) (hr : rs.length = l.length) {xa xb xc xd : Int} : ∀ (suf : List Nat) (sr : List Refutation) (i : Nat), l.drop i = suf -> rs.drop i = sr ->
  z4u (l.map Int.ofNat) ((l.length : Nat) : Int) (i : Int) lo.Members hi.Members xa xb xc xd rs = some ((suf.zip sr).all fun p => chkR lo hi (p.1 : Int) p.2)
 | [], sr, i, h, h' => by
  apply y0q;rw [q0j h]; rfl
 | b :: suf, [], i, h, h' => by
  have h1 := q0g h;have := List.drop_eq_nil_iff.1 h';omega
 | b :: suf, r :: sr, i, h, h' => by
  have h1 := q0g h;have ih := qvg hs hs' hl hr (xa := xa) (xb := xb) (xc := xc) (xd := xd) suf sr (i + 1) (q03 h) (q03 h');apply y0q;rw [q08 h];simp only [cT, q05 (q0u h), q05 h'];rw [show Config.mk lo.Members = lo from rfl, show Config.mk hi.Members = hi from rfl, qu3 hs hs', q01 (by omega), ih];simp only [bS, List.zip_cons_cons, List.all_cons];cases chkR lo hi (b : Int) r <;> rfl
def oA (x : Explanation) : Bool := decide (x.A = 0) && decide (x.B = 0)
def chxN (lo hi : Config) (ill v : Nat) (x : Explanation) : Bool :=
 if x.Kind = 1 then oA x && (decide (x.Refutations.length = 0) && (!q2v lo ill && ((isR lo hi x.Set).1 && (ndiff ill x.Set.toNat == 0 && !x.Set.toNat.testBit v))))
 else if x.Kind = 2 then decide (x.Set = 0) && (decide (x.Refutations.length = 0) && (quoZ (delC ill lo) x.A && (quoZ (delC ill lo) x.B && x.A.toNat &&& x.B.toNat == 0)))
 else if x.Kind = 3 then decide (x.Set = 0) && (oA x && (decide (x.Refutations.length = 0) && ill.testBit v))
 else if x.Kind = 4 then decide (x.Set = 0) && (oA x && qfb lo hi (btw lo ill v) x.Refutations)
 else false
def chxR (lo hi : Config) (z v : Int) (x : Explanation) : Bool := dE lo hi z == 0 && (decide (0 <= v /\ v < ((lo.Members.length : Nat) : Int)) && chxN lo hi z.toNat v.toNat x)
theorem qre {lo hi : Config} {z : Int} (h : (isR lo hi z).1 = true) : pairE lo hi = 0 /\ ∃ s : Nat, z = (s : Int) /\ s < 2 ^ lo.Members.length /\ isB lo hi s = true := by
 unfold isR at h;split at h
 ·rename_i h0;obtain ⟨h1, s, rfl, h2⟩ := q2t h0;exact ⟨h1, s, rfl, h2, h⟩
 ·cases h
theorem qkm (x : Explanation) (a b c : Bool) : z5k x a b c = some ((a || decide (x.Set = 0)) && ((b || oA x) && (c || decide (x.Refutations.length = 0)))) := by
 have e0 : eqB ((x.Refutations.length : Nat) : Int) 0 = decide (x.Refutations.length = 0) := by
  by_cases h : x.Refutations.length = 0
  ·rw [h]; rfl
  ·rw [q0r (by omega), decide_eq_false h]
 have e1 : eqB x.Set 0 = decide (x.Set = 0) := rfl;have e2 : eqB x.A 0 = decide (x.A = 0) := rfl;have e3 : eqB x.B 0 = decide (x.B = 0) := rfl;apply y94;rw [e0, e1, e2, e3];unfold oA;cases a <;> cases b <;> cases c <;> cases decide (x.Set = 0) <;> cases decide (x.A = 0) <;> cases decide (x.B = 0) <;> rfl
theorem y42 {lo hi : Config} (hs : q0e lo) (hs' : q0e hi) (z v : Int) (x : Explanation) : z6u lo hi z v x = some (chxR lo hi z v x) := by
 apply y7g;rw [qmz hs hs'];simp only [bS];by_cases h0 : pairE lo hi = 0
 ·obtain ⟨hv, hw, hlen, _, _⟩ := q0p h0;have hle := hv.1;have hde : dE lo hi z = if z < 0 then 1 else if ((full lo : Nat) : Int) < z then 1 else 0 := by unfold dE askE; rw [if_pos h0, hv.cerr, if_neg (by simp)]; rfl
  rw [h0, q0b];simp only [cF];unfold chxR;rw [hde];by_cases z0 : z < 0
  ·rw [q02 z0, if_pos z0]; rfl
  ·rw [q00 (by omega), if_neg z0, q3f hv.1];simp only [cF, bS];by_cases z1 : ((full lo : Nat) : Int) < z
   ·rw [q02 z1, if_pos z1]; rfl
   ·obtain ⟨ill, rfl⟩ := Int.eq_ofNat_of_zero_le (show 0 <= z by omega);have hlt : ill < 2 ^ lo.Members.length := by have := Nat.two_pow_pos lo.Members.length; unfold full at z1; omega
    have hill := q18 hle hlt;rw [q00 (by omega), if_neg z1];simp only [cF, beq_self_eq_true, tA, tN];by_cases v0 : v < 0
    ·rw [q02 v0, decide_eq_false (by omega)]; rfl
    ·rw [q00 (by omega)];by_cases v1 : ((lo.Members.length : Nat) : Int) <= v
     ·rw [q0d v1, decide_eq_false (by omega)]; rfl
     ·obtain ⟨k, rfl⟩ := Int.eq_ofNat_of_zero_le (show 0 <= v by omega);have hk : k < 10 := by omega
      rw [q09 (by omega), decide_eq_true (by omega)];simp only [cF, tA, tN];unfold chxN;by_cases k1 : x.Kind = 1
      ·rw [if_pos k1, k1, q0k, qhb hs, q5s hv hlt, y8r hs hs', qkm];simp only [cT, bS, Bool.true_or, Bool.false_or, tA];cases oA x with
       | false => rfl
       | true =>
        cases decide (x.Refutations.length = 0) with
        | false => rfl
        | true =>
         cases q2v lo ill with
         | true => rfl
         | false =>
          cases hi1 : (isR lo hi x.Set).1 with
          | false => rfl
          | true =>
           obtain ⟨_, s, es, hs1, _⟩ := qre hi1;have hs2 := q18 hle hs1;rw [es, q12 (by omega) (by omega), q4t, q13 hs2, q26 hk];simp only [tN, Bool.and_self, cT, Bool.not_false, tA, bS];cases (ndiff ill s == 0) <;> rfl
      ·rw [if_neg k1, q0r k1];simp only [cF];by_cases k2 : x.Kind = 2
       ·rw [if_pos k2, k2, q0k, qfm hill lo hv.bears];simp only [cT, bS];rw [qkm, qfj (q11 ill hv).small, qfj (q11 ill hv).small];simp only [bS, Bool.true_or, Bool.false_or, tA];cases decide (x.Set = 0) with
        | false => rfl
        | true =>
         cases decide (x.Refutations.length = 0) with
         | false => rfl
         | true =>
          simp only [Bool.and_self, cT, tA];cases hA : quoZ (delC ill lo) x.A with
          | false => rfl
          | true =>
           simp only [cT, tA];cases hB : quoZ (delC ill lo) x.B with
           | false => rfl
           | true => simp only [cT, tA, qcu hA hB]
       ·rw [if_neg k2, q0r k2];simp only [cF];by_cases k3 : x.Kind = 3
        ·rw [if_pos k3, k3, q0k, qkm, q13 hill, q26 hk];simp only [cT, bS, Bool.false_or];cases decide (x.Set = 0) <;> cases oA x <;> cases decide (x.Refutations.length = 0) <;> rfl
        ·rw [if_neg k3, q0r k3];simp only [cF];by_cases k4 : x.Kind = 4
         ·rw [if_pos k4, k4, q0k, qkm, qyy hs hs' hle hill hk];simp only [cT, bS, Bool.false_or, Bool.true_or, Bool.and_true];cases decide (x.Set = 0) <;> cases oA x <;> rfl
         ·rw [if_neg k4, q0r k4]; rfl
 ·have hde : dE lo hi z = pairE lo hi := by unfold dE; rw [if_neg h0]
  unfold chxR;rw [q0n h0, hde, beq_eq_false_iff_ne.2 h0]; rfl
theorem qup {lo hi : Config} (hs : q0e lo) (hs' : q0e hi) (h0 : pairE lo hi = 0) {ill k : Nat} (hlt : ill < 2 ^ lo.Members.length) (hkl : k < lo.Members.length) {d : Bool} {K S A B : Int} {rs : List Refutation} (hS : K ≠ 1 -> S = 0) (hA : K ≠ 2 -> A = 0 /\ B = 0) (hR : K ≠ 4 -> rs.length = 0) : z1v (ill : Int) (k : Int) d lo.Members hi.Members K S A B rs = some (chxN lo hi ill k ⟨K, S, A, B, rs⟩) := by
 obtain ⟨hv, hw, hlen, _, _⟩ := q0p h0;have hle := hv.1;have hill := q18 hle hlt;have hk : k < 10 := by omega
 apply y7s;rw [show Config.mk lo.Members = lo from rfl, show Config.mk hi.Members = hi from rfl];unfold chxN oA;simp only;by_cases k1 : K = 1
 ·obtain ⟨hA1, hB1⟩ := hA (by omega);have hr := hR (by omega);rw [if_pos k1, k1, q0k, qhy hs, q5s hv hlt, y8l hs hs', hA1, hB1, hr];simp only [cT, bS, decide_true, tA];cases q2v lo ill with
  | true => rfl
  | false =>
   cases hi1 : (isR lo hi S).1 with
   | false =>
    simp only [Bool.not_false, cT, tA, Bool.false_and, cF];cases eqB (isR lo hi S).2 0 <;> rfl
   | true =>
    obtain ⟨_, s, es, hs1, _⟩ := qre hi1;have hs2 := q18 hle hs1;have e2 : (isR lo hi S).2 = 0 := by rw [es, y4k h0 hs1]
    rw [e2, q0k, es, q24 (by omega) (by omega), qki, qd0, q15 hs2, q26 hk];simp only [Bool.not_false, cT, tA, bS, tN];cases (ndiff ill s == 0) <;> rfl
 ·have hs0 := hS k1;rw [if_neg k1, q0r k1, hs0];simp only [cF, decide_true, tA];by_cases k2 : K = 2
  ·have hr := hR (by omega);rw [if_pos k2, k2, q0k, q4g hill lo hv.bears, hr];simp only [cT, bS, decide_true, tA];rw [qfh (q11 ill hv).small, qfh (q11 ill hv).small];simp only [bS];cases hA : quoZ (delC ill lo) A with
   | false => rfl
   | true =>
    simp only [cT, tA];cases hB : quoZ (delC ill lo) B with
    | false => rfl
    | true => simp only [cT, tA, qcu hA hB]
  ·obtain ⟨hA1, hB1⟩ := hA k2;rw [if_neg k2, q0r k2, hA1, hB1];simp only [cF, decide_true, tA];by_cases k3 : K = 3
   ·have hr := hR (by omega);rw [if_pos k3, k3, q0k, q15 hill, q26 hk, hr];rfl
   ·rw [if_neg k3, q0r k3];by_cases k4 : K = 4
    ·rw [if_pos k4, k4, q0k, qxl hle hill hk];simp only [cF, cT, bS, List.length_map, qfb];by_cases hl : rs.length = (btw lo ill k).length
     ·rw [qry (by omega), decide_eq_true hl];simp only [cF, tA];exact qvg hs hs' (qhf hle ill k) hl _ _ 0 rfl rfl
     ·rw [q0n (by omega), decide_eq_false hl]; rfl
    ·rw [if_neg k4, q0r k4]; rfl
theorem y5d {lo hi : Config} (hs : q0e lo) (hs' : q0e hi) (z v : Int) (x : Explanation) : z75 lo hi z v x = some (chxR lo hi z v x) := by
 apply y89;rw [qnr hs hs'];simp only [bS];unfold chxR;by_cases h : dE lo hi z = 0
 ·obtain ⟨h0, ill, rfl, hlt⟩ := q2t h;obtain ⟨hv, hw, hlen, _, _⟩ := q0p h0;rw [h, q0b];simp only [cF, beq_self_eq_true, tA, tN];by_cases v0 : v < 0
  ·rw [q02 v0, decide_eq_false (by omega)]; rfl
  ·rw [q00 (by omega)];by_cases v1 : ((lo.Members.length : Nat) : Int) <= v
   ·rw [q0d v1, decide_eq_false (by omega)]; rfl
   ·obtain ⟨k, rfl⟩ := Int.eq_ofNat_of_zero_le (show 0 <= v by omega);have hk : k < lo.Members.length := by omega
    rw [q09 (by omega), decide_eq_true (by omega)];simp only [cF, tA, tN];obtain ⟨K, S, A, B, rs⟩ := x;have key := qup hs hs' h0 hlt hk (d := false) (K := K) (S := S) (A := A) (B := B) (rs := rs);have no : (K ≠ 1 /\ S ≠ 0) \/ (K ≠ 2 /\ (A ≠ 0 \/ B ≠ 0)) \/ (K ≠ 4 /\ rs.length ≠ 0) -> chxN lo hi ill k ⟨K, S, A, B, rs⟩ = false := by
     intro hno;unfold chxN oA;simp only;by_cases k1 : K = 1
     ·rw [if_pos k1];rcases hno with ⟨h, _⟩ | ⟨_, h | h⟩ | ⟨_, h⟩
      ·exact absurd k1 h
      ·simp [h]
      ·simp [h]
      ·simp [h]
     ·rw [if_neg k1];by_cases k2 : K = 2
      ·rw [if_pos k2];rcases hno with ⟨_, h⟩ | ⟨h, _⟩ | ⟨_, h⟩
       ·simp [h]
       ·exact absurd k2 h
       ·simp [h]
      ·rw [if_neg k2];by_cases k3 : K = 3
       ·rw [if_pos k3];rcases hno with ⟨_, h⟩ | ⟨_, h | h⟩ | ⟨_, h⟩ <;> simp [h]
       ·rw [if_neg k3];by_cases k4 : K = 4
        ·rw [if_pos k4];rcases hno with ⟨_, h⟩ | ⟨_, h | h⟩ | ⟨h, _⟩
         ·simp [h]
         ·simp [h]
         ·simp [h]
         ·exact absurd k4 h
        ·rw [if_neg k4]
    have dN : ∀ a b : Int, neB a b = false -> a = b := fun a b h => by
     simp only [neB, Bool.not_eq_false', dT'] at h; exact h
    have dT : ∀ a b : Int, neB a b = true -> a ≠ b := fun a b h => by
     simp only [neB, Bool.not_eq_true', decide_eq_false_iff_not] at h; exact h
    have dL : ltB 0 ((rs.length : Nat) : Int) = true -> rs.length ≠ 0 := fun h => by
     simp only [ltB, dT'] at h; omega
    have dL' : ltB 0 ((rs.length : Nat) : Int) = false -> rs.length = 0 := fun h => by
     simp only [ltB, decide_eq_false_iff_not] at h; omega
    simp only;cases e1 : neB K 1 <;> cases e2 : neB S 0 <;> cases e3 : neB K 2 <;> cases e4 : neB A 0 <;> cases e5 : neB B 0 <;> cases e6 : neB K 4 <;> cases e7 : ltB 0 ((rs.length : Nat) : Int)
    all_goals simp only [cT, cF]
    all_goals first
     | exact key (fun h => by first | exact dN _ _ e2 | exact absurd (dN _ _ e1) h) (fun h => by first | exact ⟨dN _ _ e4, dN _ _ e5⟩ | exact absurd (dN _ _ e3) h) (fun h => by first | exact dL' e7 | exact absurd (dN _ _ e6) h)
     | (rw [no (by first | exact .inl ⟨dT _ _ e1, dT _ _ e2⟩ | exact .inr (.inl ⟨dT _ _ e3, .inl (dT _ _ e4)⟩) | exact .inr (.inl ⟨dT _ _ e3, .inr (dT _ _ e5)⟩) | exact .inr (.inr ⟨dT _ _ e6, dL e7⟩))])
 ·rw [q0n h, beq_eq_false_iff_ne.2 h]; rfl
variable {n : Nat} {lo hi : Config}
end Go.Proofs.YtjfhnffdijlboaaGreat
namespace Go.Proofs.YtjfhnffdijlboaaGreat
open Go Go.Ab Go.Sort
end Go.Proofs.YtjfhnffdijlboaaGreat
namespace Go.Proofs.YtjfhnffdijlboaaGreat
open Go Go.Ab Go.Sort
theorem quu {c : Config} {n : Nat} (hn : n <= 10) (h1 : 1 <= n) (hm : c.Members.length = n) {l : List Int} : ∀ (k s : Nat) (i : Int), k <= 100 -> s < 2 ^ n -> q0q l i ->
  ∃ (v : Nat) (j : Int), z6h (n : Int) (s : Int) (k : Int) l i c.Members = some ((v : Int), l, j) /\ v < 2 ^ n /\ q0q l j
 | 0, s, i, hk, hs, h => by
  have hp := pow10 hn;have hp1 := Nat.two_pow_pos n;obtain ⟨v, j, g1, g2, g3, g4⟩ := N_ok (n := 2) (by decide) (by decide) h;have hd := q51 c;have hr := q3g c (by omega);have hlt : ndiff (2 ^ n - 1) (decl c) < 2 ^ n := q1r.2 fun i hi => by
   rw [q04] at hi;cases hx : (2 ^ n - 1).testBit i with
   | true => rfl
   | false => simp [hx] at hi
  have hv : v = 0 \/ v = 1 := by omega
  have key : ∀ w : Nat, mulI .i64 ((ndiff (2 ^ n - 1) (decl c) : Nat) : Int) v = ((w : Nat) : Int) -> w < 2 ^ n -> ∃ (v : Nat) (j : Int), z6h (n : Int) (s : Int) ((0 : Nat) : Int) l i c.Members = some ((v : Int), l, j) /\ v < 2 ^ n /\ q0q l j := by
   intro w hw hwl;refine ⟨s ||| w, j, ?_, Nat.or_lt_two_pow hs hwl, g4⟩;apply y0n;rw [q00 (by omega), q0m (by omega), show Config.mk c.Members = c from rfl, hr];simp only [cF, bS];rw [g1];simp only [bS];rw [q2r hn, q12 (by omega) (by omega), hw, q52 (by omega) (by omega)]
  rcases hv with rfl | rfl
  ·refine key 0 ?_ hp1;show mulI .i64 _ 0 = _;unfold mulI;rw [Int.mul_zero];exact q5g (by omega) (by omega)
  ·refine key (ndiff (2 ^ n - 1) (decl c)) ?_ hlt;show mulI .i64 _ 1 = _;unfold mulI;rw [Int.mul_one];exact q5g (by omega) (by omega)
 | k + 1, s, i, hk, hs, h => by
  have hp := pow10 hn;obtain ⟨v, j, g1, g2, g3, g4⟩ := N_ok (n := (n : Int)) (by omega) (by omega) h;obtain ⟨w, rfl⟩ := Int.eq_ofNat_of_zero_le g2;have hw : 2 ^ w < 2 ^ n := Nat.pow_lt_pow_right (by decide) (by omega);obtain ⟨v', j', k1, k2, k3⟩ := quu hn h1 hm k (s ||| 2 ^ w) j (by omega) (Nat.or_lt_two_pow hs hw) g4;refine ⟨v', j', ?_, k2, k3⟩;apply y0n;rw [q02 (by omega), g1];simp only [cT, bS];rw [q0m (by omega), shl1 (by omega) (by omega), tN, q52 (by omega) (by omega), q25 (by omega) (by omega)];rw [show ((k + 1 : Nat) : Int) - 1 = ((k : Nat) : Int) by omega];exact k1
theorem y9e {m : Nat} {c : Config} (hc : ConfOk m c) (hm : m <= 10) {l : List Int} {i : Int} (h : q0q l i) : ∃ (v : Nat) (j : Int), z7q c l i = some ((v : Int), l, j) /\ v < 2 ^ c.Members.length /\ q0q l j := by
 have hle := hc.le;have hpos := hc.pos;obtain ⟨p, j, g1, g2, g3⟩ := q9p (ps := [0, 1, 1, 2, 3]) (by decide) (by decide) h;have hpn : ∃ k : Nat, k <= 100 /\ p = (k : Int) := by
  simp at g2;rcases g2 with rfl | rfl | rfl | rfl
  ·exact ⟨0, by decide, rfl⟩
  ·exact ⟨1, by decide, rfl⟩
  ·exact ⟨2, by decide, rfl⟩
  ·exact ⟨3, by decide, rfl⟩
 obtain ⟨k, hk, rfl⟩ := hpn;have hp1 := Nat.two_pow_pos c.Members.length;obtain ⟨v, j', k1, k2, k3⟩ := quu (c := c) (n := c.Members.length) (by omega) (by omega) rfl (l := l) k 0 j hk hp1 g3;refine ⟨v, j', ?_, k2, k3⟩;apply y9s;rw [g1];simp only [bS];exact k1
def cfour : Config := uni 4 (flat 4 3)
set_option maxRecDepth 100000 in
theorem qbn : pairE cfour cfour = 0 := by decide +kernel
theorem four_valid : ValidC cfour := (q0p qbn).1
set_option maxRecDepth 100000 in
theorem qty : inta cfour cfour 1 = 14 := by decide +kernel
set_option maxRecDepth 100000 in
theorem qti : inta cfour cfour 3 = 0 := by decide +kernel
set_option maxRecDepth 100000 in
theorem qwo : bef cfour cfour 1 = 1 := by decide +kernel
theorem qvx : law15_four = some cfour := by
 apply law15_four_le;apply qlx;simp only [q02 (show (0 : Int) < 4 by decide), cT, show addI .i64 0 1 = 1 from rfl];rw [q06 (by decide)];apply qlx;simp only [q02 (show (1 : Int) < 4 by decide), cT, show addI .i64 1 1 = 2 from rfl];rw [q06 (by decide)];apply qlx;simp only [q02 (show (2 : Int) < 4 by decide), cT, show addI .i64 2 1 = 3 from rfl];rw [q06 (by decide)];apply qlx;simp only [q02 (show (3 : Int) < 4 by decide), cT, show addI .i64 3 1 = 4 from rfl];rw [q06 (by decide)];apply qlx;rfl
theorem qjo : law15_awake = some true := by
 have hs := four_valid.small;have h1 : z5h cfour cfour 1 = some (14, 0) := by
  rw [qr3 hs hs, show (1 : Int) = ((1 : Nat) : Int) from rfl, qjp qbn (by decide), qty]; rfl
 have h3 : z5h cfour cfour 3 = some (0, 0) := by
  rw [qr3 hs hs, show (3 : Int) = ((3 : Nat) : Int) from rfl, qjp qbn (by decide), qti]; rfl
 have h2 : z41 cfour cfour 1 = some (1, 0) := by
  rw [qu7 hs hs, show (1 : Int) = ((1 : Nat) : Int) from rfl, qjp qbn (by decide), qwo]
 apply law15_awake_le;rw [qvx];simp only [bS];rw [h1];simp only [bS];rw [h3];simp only [bS];rw [h2];rfl
theorem qzs {x : Explanation} (hx : x.Refutations.length <= 2000) : z7e x x = some true := by
 apply yas;simp only [q0b, cF];have l1 : ∀ (m i : Nat), i + m = x.Refutations.length -> z5b ((x.Refutations.length : Nat) : Int) (i : Int) x.Kind x.Set x.A x.B x.Refutations x.Kind x.Set x.A x.B x.Refutations = some true := by
  intro m;induction m with
  | zero =>
   intro i h;apply y0s;rw [q00 (by omega)]; rfl
  | succ m ih =>
   intro i h;have hi : i < x.Refutations.length := by omega
   have g : x.Refutations[i]? = some (x.Refutations[i]'hi) := List.getElem?_eq_getElem hi;apply y0s;rw [q02 (by omega)];simp only [cT];rw [q0y (by omega) (by rw [tN]; exact g), q0y (by omega) (by rw [tN]; exact g)];simp only [q0k, Bool.and_self, nT, cF];rw [q01 (show i < 4611686018427387904 by omega)];exact ih (i + 1) (by omega)
 exact l1 x.Refutations.length 0 (by omega)
theorem y55 {lo hi : Config} (z v : Int) : (expR lo hi z v).1.Refutations.length <= 1024 := by
 unfold expR;split
 ·rename_i h;obtain ⟨hv, _, _, _, _⟩ := q0p (q2t h).1;split
  ·simp
  ·split
   ·simp
   ·unfold expN refs;split
    ·simp
    ·split
     ·simp
     ·split
      ·simp
      ·simp only [List.length_map]; exact qhf hv.1 _ _
 ·simp
theorem qyu {lo hi : Config} {z s : Int} (h : (folR lo hi z s).2.2 = 0) : (folR lo hi z s).2.1 = leB 0 (folR lo hi z s).1 := by
 unfold folR at *;split at h
 ·rename_i h0;rw [if_pos h0];split at h
  ·cases h
  ·rename_i h1;rw [if_neg h1];split at h
   ·cases h
   ·rename_i h2;rw [if_neg h2];unfold folT;split
    ·rw [q0d (by omega)]
    ·rfl
 ·rename_i h0; exact absurd h h0
theorem qw4 {y1 y2 : Config} (hs : q0e y1) (hs' : q0e y2) {a0 a2 a8 a10 : Int} {a12 : List Arr2_Config} {a14 a16 : Int} {xs : List Explanation} (hx : xs.length <= 100) {a24 a26 : List Member} {a28 a30 a32 a34 : Int} {a36 : List Refutation} {a38 : List Int} {a40 : Int} {a42 a44 : List Member} {a50 a52 a54 a56 : Int} {a58 : List Refutation} {a60 a62 a64 a66 : Int} {a68 : List Refutation} {a70 a72 a74 a76 : Int} {a78 : List Refutation}
  (K : z17 a0 a2 a12 a14 (addI .i64 a16 1) a24 a26 a28 a30 a32 a34 a36 a38 a40 a42 a44 = some true) : ∀ (suf : List Explanation) (i : Nat), xs.drop i = suf ->
  z1n a0 a2 a8 a10 a12 a14 a16 xs ((xs.length : Nat) : Int) (i : Int) a24 a26 a28 a30 a32 a34 a36 a38 a40 a42 a44 y1.Members y2.Members a50 a52 a54 a56 a58 a60 a62 a64 a66 a68 a70 a72 a74 a76 a78 = some true
 | [], i, h => by
  apply y1w;rw [q0j h]; exact K
 | x :: suf, i, h => by
  have hlt := q0g h;have ih := qw4 hs hs' (a8 := a8) (a10 := a10) (a50 := a50) (a52 := a52) (a54 := a54) (a56 := a56) (a58 := a58) (a60 := a60) (a62 := a62) (a64 := a64) (a66 := a66) (a68 := a68) (a70 := a70) (a72 := a72) (a74 := a74) (a76 := a76) (a78 := a78) hx K suf (i + 1) (q03 h);apply y1w;rw [q08 h];simp only [cT, q05 h];rw [show Config.mk y1.Members = y1 from rfl, show Config.mk y2.Members = y2 from rfl, y42 hs hs', y5d hs hs', q01 (by omega)];simp only [bS, beq_self_eq_true, nT, cF];exact ih
theorem qxp {y1 y2 : Config} (hs : q0e y1) (hs' : q0e y2) {a0 a2 a8 a10 : Int} {a12 : List Arr2_Config} {a14 a16 : Int} {zs : List Int} (hz : zs.length <= 100) {a24 a26 : List Member} {a28 a30 a32 a34 : Int} {a36 : List Refutation} {tl : List Int} {a42 a44 : List Member}
  (K : ∀ i, q0q tl i -> z17 a0 a2 a12 a14 (addI .i64 a16 1) a24 a26 a28 a30 a32 a34 a36 tl i a42 a44 = some true) {ti : Int} (ht : q0q tl ti) : ∀ (suf : List Int) (i : Nat), zs.drop i = suf ->
  z1l a0 a2 a8 a10 a12 a14 a16 zs ((zs.length : Nat) : Int) (i : Int) a24 a26 a28 a30 a32 a34 a36 tl ti a42 a44 y1.Members y2.Members = some true
 | [], i, h => by
  obtain ⟨s, j1, c1, c2, c3, c4⟩ := N_ok (n := 16) (by decide) (by decide) ht;obtain ⟨kd, j2, d1, d2, d3⟩ := q9p (ps := [(expR y1 y2 a8 a10).1.Kind, 1, 2, 3, 4]) (by simp) (by simp) c4;obtain ⟨b, j3, e1, e2, e3, e4⟩ := N_ok (n := 2) (by decide) (by decide) d3;have K' := K j3 e4;apply y2m;rw [q0j h, show Config.mk y1.Members = y1 from rfl, show Config.mk y2.Members = y2 from rfl, qy1 hs hs'];simp only [cF, bS];rw [qwx hs hs'];simp only [bS];rw [c1];simp only [bS];rw [qw3 hs hs'];simp only [bS, q0b, cF];rw [qzs (Nat.le_trans (y55 _ _) (by decide)), d1];simp only [bS, nT, cF];rw [e1];simp only [bS]
  have fin := qw4 hs hs' (a8 := a8) (a10 := a10) (a12 := a12) (a14 := a14) (a16 := a16) (xs := [Explanation.mk (expR y1 y2 a8 a10).1.Kind (expR y1 y2 a8 a10).1.Set (expR y1 y2 a8 a10).1.A (expR y1 y2 a8 a10).1.B (expR y1 y2 a8 a10).1.Refutations, Explanation.mk kd (xorI .i64 (expR y1 y2 a8 a10).1.Set b) (expR y1 y2 a8 a10).1.A (expR y1 y2 a8 a10).1.B (expR y1 y2 a8 a10).1.Refutations, Explanation.mk a28 a30 a32 a34 a36]) (by simp) K' (a50 := (expR y1 y2 a8 a10).1.Kind) (a52 := (expR y1 y2 a8 a10).1.Set) (a54 := (expR y1 y2 a8 a10).1.A) (a56 := (expR y1 y2 a8 a10).1.B) (a58 := (expR y1 y2 a8 a10).1.Refutations) (a60 := (expR y1 y2 a8 a10).1.Kind) (a62 := (expR y1 y2 a8 a10).1.Set) (a64 := (expR y1 y2 a8 a10).1.A) (a66 := (expR y1 y2 a8 a10).1.B) (a68 := (expR y1 y2 a8 a10).1.Refutations) (a70 := kd) (a72 := xorI .i64 (expR y1 y2 a8 a10).1.Set b) (a74 := (expR y1 y2 a8 a10).1.A) (a76 := (expR y1 y2 a8 a10).1.B) (a78 := (expR y1 y2 a8 a10).1.Refutations) _ 0 rfl
  cases hf : eqB (folR y1 y2 a8 s).2.2 0 with
  | true =>
   simp only [cT];rw [qyu (qvc.1 hf)];simp only [beq_self_eq_true, nT, cF];exact fin
  | false => exact fin
 | z :: suf, i, h => by
  have hlt := q0g h;have ih := qxp hs hs' (a8 := a8) (a10 := a10) hz K ht suf (i + 1) (q03 h);apply y2m;rw [q08 h];simp only [cT, q05 h];rw [show Config.mk y1.Members = y1 from rfl, show Config.mk y2.Members = y2 from rfl, qr3 hs hs', y3t hs hs', qu7 hs hs', qpk hs hs', qw3 hs hs', y4n hs hs', qy1 hs hs', qwx hs hs', q01 (by omega)];simp only [bS, q0b, cF, beq_self_eq_true, nT];exact ih
theorem qva {n : Nat} {lo : Config} (hlo : ConfOk n lo) (hn : n <= 10) {a0 a2 : Int} {ys : List Arr2_Config} (hl : ys.length <= 100) (hs : ∀ y ∈ ys, q0e y.e0 /\ q0e y.e1) {a13 a15 : List Member} {a17 a19 a21 a23 : Int} {a25 : List Refutation} {tl : List Int} {a33 : List Member} : ∀ (suf : List Arr2_Config) (i : Nat) (ti : Int), ys.drop i = suf -> q0q tl ti ->
  z17 a0 a2 ys ((ys.length : Nat) : Int) (i : Int) a13 a15 a17 a19 a21 a23 a25 tl ti lo.Members a33 = some true
 | [], i, ti, h, ht => by
  apply y1n;rw [q0j h, qjo]; rfl
 | y :: suf, i, ti, h, ht => by
  have hlt := q0g h;obtain ⟨s1, s2⟩ := hs y (List.mem_of_mem_drop (by rw [h]; exact List.mem_cons_self));have go : ∀ t', q0q tl t' -> z17 a0 a2 ys ((ys.length : Nat) : Int) (addI .i64 (i : Int) 1) a13 a15 a17 a19 a21 a23 a25 tl t' lo.Members a33 = some true := fun t' ht' => by
   rw [q01 (by omega)]; exact qva hlo hn hl hs suf (i + 1) t' (q03 h) ht'
  obtain ⟨v, j, g1, g2, g3⟩ := y9e hlo hn ht;obtain ⟨d, j2, k1, k2, k3, k4⟩ := N_ok (n := 4) (by decide) (by decide) g3;apply y1n;rw [q08 h];simp only [cT, q05 h];rw [show Config.mk lo.Members = lo from rfl, g1];simp only [bS];rw [k1];simp only [bS];have fin := qxp s1 s2 (a0 := a0) (a2 := a2) (a8 := (v : Int)) (a10 := d) (zs := [a0, (v : Int)]) (by simp) go k4 _ 0 rfl;cases ltB 4 ((y.e0.Members.length : Nat) : Int) with
  | true =>
   simp only [cT];cases leB ((y.e0.Members.length : Nat) : Int) 7 with
   | true => exact go ti ht
   | false => exact fin
  | false => exact fin
theorem qlh (t : List Int) (r o : Config) (b v : Int) (x : Explanation) (hr : ∀ m ∈ r.Members, raw m.Trust = true) (ho : ∀ m ∈ o.Members, raw m.Trust = true) (hx : x.Refutations.length < 1152921504606846976) : law15_IntactAnswers t r o b v x = some true := by
 obtain ⟨b1, s1, s2⟩ := qnf hr;obtain ⟨b2, s3, s4⟩ := qnf ho;apply law15_IntactAnswers_le;rw [s1];cases b1 with
 | false => simp only [bS, Bool.not_false, cT, qjo]
 | true =>
  simp only [bS, nT, cF];rw [s3];cases b2 with
  | false => simp only [bS, Bool.not_false, cT, qjo]
  | true =>
   simp only [bS, nT, cF];by_cases h1 : 100 < x.Refutations.length
   ·rw [q02 (by omega), qjo]; rfl
   ·obtain ⟨tl, a1, a2⟩ := y83 t;obtain ⟨lo, hi, j, c1, c2, c3⟩ := y4e (n := 4) (by decide) (by decide) a2;have hcb := c2.lok.CB' (by decide);have hcb' := c2.hik.CB' (by decide);obtain ⟨d, j2, d1, d2, d3⟩ := qzu hcb.1 hcb.2 c3;rw [q00 (by omega), a1];simp only [cF, bS];rw [show (4 : Int) = ((4 : Nat) : Int) from rfl, c1];simp only [bS];rw [d1];simp only [bS];have k1 := (CB.of hcb).small;have k2 := (CB.of hcb').small;have k3 : q0e d := d2.small;have k4 : q0e r := by
     obtain ⟨g1, g2⟩ := s2 rfl;exact ⟨by omega, fun m hm => by have := g2 m hm; unfold Small; omega⟩
    have k5 : q0e o := by
     obtain ⟨g1, g2⟩ := s4 rfl;exact ⟨by omega, fun m hm => by have := g2 m hm; unfold Small; omega⟩
    refine qva c2.lok (by decide) (by simp) (fun w hw => ?_) _ 0 j2 rfl d3;simp only [List.mem_cons, List.not_mem_nil, or_false] at hw;rcases hw with rfl | rfl | rfl
    ·exact ⟨k1, k2⟩
    ·exact ⟨k3, k2⟩
    ·exact ⟨k4, k5⟩
end Go.Proofs.YtjfhnffdijlboaaGreat
namespace Go.Ab
open Go Go.ChangeShapes Go.WideShapes Go.RowKit
def Shows (w : World) (ds : List D) (cs : List Value) : Prop := cs.length = ds.length /\ ∀ (j : Nat) c, ds[j]? = some c -> Rep w q4a c (cs.getD j undef)
section
variable {H : Type} {enc : TypeId × Value -> H} {P : Program} {w : World} {spare : Nat -> Bool} {held : Bool}
def Opens (enc : TypeId × Value -> H) (P : Program) (w : World) (spare : Nat -> Bool) (held : Bool) (n : Nat) (t : TypeId) {Y : Type} (f : Y -> D) (good : Y -> Prop) : Prop :=
 ∀ cs d p, DataW.trod enc P w 0 spare held n t cs = some (d, p) -> (d.weights P t).all (· <= reachBytes) = true -> ∃ y, good y /\ Shows w (f y).cells cs
theorem qcb {v : Value} {d : D} (h : Rep w q4a d v) : Shows w [d] [v] :=
 ⟨rfl, fun j c hj => by
  cases j with
  | zero => simp at hj; subst hj; exact h
  | succ j => simp at hj⟩
theorem q47 {n : Nat} {t : TypeId} {k : IntKind} (ht : P.underlying t = some (.int k)) : Opens enc P w spare held n t (fun z : Int => D.v (.int k z)) (fun z => (Lit.int k z).wf = true) := by
 intro cs d p h _;obtain ⟨z, rfl, hx, hw⟩ := DataW.trod_int ht h;exact ⟨z, hw, qcb (.v _ rfl)⟩
theorem qtl {n : Nat} {t : TypeId} (ht : P.underlying t = some .bool) : Opens enc P w spare held n t (fun z : Bool => D.v (.bool z)) (fun _ => True) := by
 intro cs d p h _;obtain ⟨z, rfl, hx⟩ := DataW.trod_bool ht h;exact ⟨z, trivial, qcb (.v _ rfl)⟩
theorem qaq {e : TypeId} : ∀ {l : List (DataW H)}, (DataW.weightsAll P e l).all (· <= reachBytes) = true -> ∀ d ∈ l, (d.weights P e).all (· <= reachBytes) = true
 | [], _, d, hd => by cases hd
 | x :: r, h, d, hd => by
  simp only [DataW.weightsAll, List.all_append, aT] at h;rcases List.mem_cons.1 hd with rfl | hd
  ·exact h.1
  ·exact qaq h.2 d hd
theorem q3d : ∀ {ts : List TypeId} {l : List (DataW H)}, (DataW.weightsEach P ts l).all (· <= reachBytes) = true -> ∀ (i : Nat) t d, ts[i]? = some t -> l[i]? = some d -> (d.weights P t).all (· <= reachBytes) = true
 | [], _, _, i, t, d, h1, _ => by simp at h1
 | _ :: _, [], _, i, t, d, _, h2 => by simp at h2
 | t0 :: ts, d0 :: l, h, i, t, d, h1, h2 => by
  simp only [DataW.weightsEach, List.all_append, aT] at h;cases i with
  | zero => simp at h1 h2; subst h1; subst h2; exact h.1
  | succ i => exact q3d h.2 i t d (by simpa using h1) (by simpa using h2)
theorem y30 {Y : Type} {Q : Nat -> Y -> Prop} : ∀ (n : Nat), (∀ i, i < n -> ∃ y, Q i y) -> ∃ ys : List Y, ys.length = n /\ ∀ (i : Nat) y, ys[i]? = some y -> Q i y
 | 0, _ => ⟨[], rfl, fun i y h => by simp at h⟩
 | n + 1, h => by
  obtain ⟨ys, h1, h2⟩ := y30 n (fun i hi => h i (by omega));obtain ⟨y, hy⟩ := h n (by omega);refine ⟨ys ++ [y], by simp [h1], fun i z hz => ?_⟩;rw [List.getElem?_append] at hz;split at hz
  ·exact h2 i z hz
  ·rename_i hi;have : i = n := by have := (List.getElem?_eq_some_iff.1 hz).1; simp at this; omega
   subst this;simp [h1] at hz;subst hz; exact hy
theorem qh5 {a : Addr} {n : Nat} {cs : List Value} (h : w.cells? 0 a n = some cs) : cs.length = n /\ ∀ i, i < n -> w.cell? (a.add i) = cs[i]? := by
 unfold World.cells? at h;rw [if_pos (Nat.zero_le _)] at h;exact ⟨by simpa using mapM_some_length h, fun i hi => mapM_some_get h i i (by simp [hi])⟩
theorem qud {a : Addr} {u : Value} (h : w.cell? (a.add 0) = some u) : a.spot = none := by
 simp only [Addr.add, if_true, World.cell?] at h;split at h
 ·split at h
  ·cases h
  ·rename_i hs; simpa using hs
 ·cases h
theorem q7v {n sz : Nat} {t e : TypeId} {Y : Type} {f : Y -> D} {good : Y -> Prop} (ht : P.underlying t = some (.slice e)) (hsz : P.cellsOf e = sz) (hpos : 0 < sz) (hb : 8 <= P.bytesOf e) (hf : ∀ y, (f y).cells.length = sz)
  (he : ∀ m, m < n -> Opens enc P w spare held m e f good) : Opens enc P w spare held n t (fun ys : List Y => D.list (ys.map f)) (fun ys => ys.length < 1152921504606846976 /\ ∀ y ∈ ys, good y) := by
 intro cs d p h hw;rcases DataW.trod_slice ht h with ⟨rfl, hx⟩ | ⟨a, len, cap, elems, rest, n', rfl, rfl, hx, _, hlc, _, hlen, hel, _, _⟩
 ·exact ⟨[], ⟨by simp, by simp⟩, qcb (.empty _ _)⟩
 ·simp only [pI] at hx;obtain ⟨rfl, _⟩ := hx;simp only [DataW.weights, ht, List.all_cons, List.all_append, aT, dT', List.length_map] at hw;obtain ⟨hw1, hw2, _⟩ := hw;have each : ∀ i, i < len -> ∃ y, good y /\ ∃ cs', w.cells? 0 (a.add (i * sz)) sz = some cs' /\ Shows w (f y).cells cs' := by
   intro i hi;have h1 := hel i hi;have hie : i < elems.length := by omega
   rw [List.getElem?_eq_getElem hie, Option.bind_eq_some_iff, hsz] at h1;obtain ⟨cs', h2, h3⟩ := h1;obtain ⟨y, g1, g2⟩ := he n' (by omega) cs' elems[i].1 elems[i].2 h3 (qaq hw2 _ (List.mem_map.2 ⟨_, List.getElem_mem hie, rfl⟩));exact ⟨y, g1, cs', h2, g2⟩
  obtain ⟨ys, y1, y2⟩ := y30 len each;have hlenb : ys.length < 1152921504606846976 := by
   have h8 : len * 8 <= (elems.length + rest.length) * P.bytesOf e := Nat.mul_le_mul (by omega) hb;have : reachBytes = 140737488351232 := rfl;omega
  refine ⟨ys, ⟨hlenb, fun y hy => ?_⟩, qcb ?_⟩
  ·obtain ⟨i, hi⟩ := List.getElem?_of_mem hy;exact (y2 i y hi).1
  ·by_cases h0 : len = 0
   ·have : ys = [] := List.length_eq_zero_iff.1 (by omega);subst this;subst h0;exact .empty _ _
   ·have hsp : a.spot = none := by
     obtain ⟨y, _, cs', h2, _⟩ := each 0 (by omega);obtain ⟨h3, h4⟩ := qh5 h2;have h5 := h4 0 hpos;have hlt : 0 < cs'.length := by omega
     rw [List.getElem?_eq_getElem hlt, Nat.zero_mul] at h5;have := qud h5;simpa [Addr.add] using this
    obtain ⟨b, off, sp⟩ := a;simp only at hsp;subst hsp;have hml : (ys.map f).length = len := by simp [y1]
    have key := Rep.list (w := w) (I := q4a) (ys.map f) b off cap sz (fun i j => (w.cell? ⟨b, off + i * sz + j, none⟩).getD undef) (fun x hx => by
      obtain ⟨y, _, rfl⟩ := List.mem_map.1 hx; exact hf y) (by rw [hml]; exact hlc)
     (fun i x hx j c hj => by
      rw [List.getElem?_map] at hx;cases hy : ys[i]? with
      | none => rw [hy] at hx; cases hx
      | some y =>
       rw [hy] at hx; simp only [mS, sI] at hx; subst hx;obtain ⟨_, cs', h2, h3, h4⟩ := y2 i y hy;obtain ⟨h5, h6⟩ := qh5 h2;have hj' : j < sz := by rw [<- hf y]; exact (List.getElem?_eq_some_iff.1 hj).1
       have h7 := h6 j hj';have hlt : j < cs'.length := by omega
       rw [add_plain, add_plain, List.getElem?_eq_getElem hlt] at h7;exact ⟨by rw [h7]; rfl, trivial⟩)
     (fun i x hx j c hj => by
      rw [List.getElem?_map] at hx;cases hy : ys[i]? with
      | none => rw [hy] at hx; cases hx
      | some y =>
       rw [hy] at hx; simp only [mS, sI] at hx; subst hx;obtain ⟨_, cs', h2, h3, h4⟩ := y2 i y hy;obtain ⟨h5, h6⟩ := qh5 h2;have hj' : j < sz := by rw [<- hf y]; exact (List.getElem?_eq_some_iff.1 hj).1
       have h7 := h6 j hj';have hlt : j < cs'.length := by omega
       rw [add_plain, add_plain, List.getElem?_eq_getElem hlt] at h7;have h8 := h4 j c hj;rw [List.getD_eq_getElem?_getD, List.getElem?_eq_getElem hlt] at h8;rw [h7];exact h8)
    rw [hml] at key;exact key
theorem q6a {n : Nat} {t : TypeId} {fs : Array Field} {cs : List Value} {d : DataW H} {p : List MemPlace} (ht : P.underlying t = some (.struct fs)) (h : DataW.trod enc P w 0 spare held n t cs = some (d, p)) (hw : (d.weights P t).all (· <= reachBytes) = true) :
  ∃ m, n = m + 1 /\ cs.length = P.cellsOf t /\ ∀ (i : Nat) (f : Field), fs[i]? = some f -> ∃ d' p', DataW.trod enc P w 0 spare held m f.type ((cs.drop f.offset).take (P.cellsOf f.type)) = some (d', p') /\ (d'.weights P f.type).all (· <= reachBytes) = true := by
 obtain ⟨xs, m, rfl, hx, hl, hn, hf⟩ := DataW.trod_struct ht h;simp only [pI] at hx;obtain ⟨rfl, _⟩ := hx;simp only [DataW.weights, ht] at hw;refine ⟨m, rfl, hl, fun i f hi => ?_⟩;have hlt : i < xs.length := by rw [hn]; exact (Array.getElem?_eq_some_iff.1 hi).1
 have h1 := hf i f hi;rw [List.getElem?_eq_getElem hlt] at h1;exact ⟨_, _, h1, q3d hw i f.type _ (by rw [List.getElem?_map]; simp [hi]) (by rw [List.getElem?_map, List.getElem?_eq_getElem hlt]; rfl)⟩
theorem q4e {a b : List D} {cs : List Value} {k m : Nat} (hm : a.length = m) (h1 : Shows w a ((cs.drop k).take m)) (h2 : Shows w b (cs.drop (k + m))) : Shows w (a ++ b) (cs.drop k) := by
 have hle : m <= cs.length - k := by have := h1.1; simp at this; omega
 refine ⟨by have := h2.1; simp at this ⊢; omega, fun j c hj => ?_⟩;rw [List.getElem?_append] at hj;split at hj
 ·rename_i hlt;have := h1.2 j c hj;rw [List.getD_eq_getElem?_getD, List.getElem?_take, if_pos (by omega)] at this;rw [List.getD_eq_getElem?_getD]; exact this
 ·rename_i hge;have := h2.2 _ c hj;rw [List.getD_eq_getElem?_getD, List.getElem?_drop] at this ⊢;rw [show k + m + (j - a.length) = k + j by omega] at this;exact this
theorem q93 {a : List D} {cs : List Value} {k m : Nat} (h : Shows w a ((cs.drop k).take m)) (hm : cs.length = k + m) : Shows w a (cs.drop k) := by
 rw [List.take_of_length_le (by simp; omega)] at h; exact h
theorem qg4 {ds : List D} {cs : Array Value} (h : Shows w ds cs.toList) : Rep w q4a (.agg ds) (.agg cs) :=
 .agg ds cs (by simpa using h.1) (fun j c hj => by
  have := h.2 j c hj;rw [List.getD_eq_getElem?_getD] at this;rw [Array.getD_eq_getD_getElem?];simpa using this)
end
end Go.Ab
namespace Go.Proofs.YtjfhnffdijlboaaGreat
open Go Go.Ab Go.ChangeShapes Go.WideShapes Go.RowKit
section
variable {H : Type} {enc : TypeId × Value -> H} {w : World} {spare : Nat -> Bool} {held : Bool}
theorem qo4 (t : Trust) : (q2a t).cells.length = 3 := by cases t; rfl
theorem y43 {l : List Trust} (h : ∀ x ∈ l, raw x = true) : raws l = true := by
 induction l with
 | nil => rfl
 | cons y r ih => simp only [raws, h y (by simp), ih (fun x hx => h x (by simp [hx])), Bool.and_self]
theorem qpl : ∀ n, Opens enc Tryz.prog w spare held n 70 q2a (fun t => raw t = true) := by
 intro n;induction n using Nat.strongRecOn with
 | _ n ih =>
  intro cs d p h hw;obtain ⟨m, rfl, hl, hf⟩ := q6a Tryz.underlying70 h hw;have c70 : Tryz.prog.cellsOf 70 = 3 := by kernel_rfl
  have c3 : Tryz.prog.cellsOf 3 = 1 := by kernel_rfl
  have c22 : Tryz.prog.cellsOf 22 = 1 := by kernel_rfl
  have c68 : Tryz.prog.cellsOf 68 = 1 := by kernel_rfl
  have b3 : Tryz.prog.bytesOf 3 = 8 := by kernel_rfl
  have b70 : 8 <= Tryz.prog.bytesOf 70 := of_decide_eq_true (by kernel_rfl);obtain ⟨d0, p0, t0, w0⟩ := hf 0 _ rfl;obtain ⟨d1, p1, t1, w1⟩ := hf 1 _ rfl;obtain ⟨d2, p2, t2, w2⟩ := hf 2 _ rfl;replace t0 : DataW.trod enc Tryz.prog w 0 spare held m 3 ((cs.drop 0).take (Tryz.prog.cellsOf 3)) = some (d0, p0) := t0;replace t1 : DataW.trod enc Tryz.prog w 0 spare held m 22 ((cs.drop 1).take (Tryz.prog.cellsOf 22)) = some (d1, p1) := t1;replace t2 : DataW.trod enc Tryz.prog w 0 spare held m 68 ((cs.drop 2).take (Tryz.prog.cellsOf 68)) = some (d2, p2) := t2;rw [c3] at t0; rw [c22] at t1; rw [c68] at t2;obtain ⟨z, z1, z2⟩ := q47 Tryz.underlying3 _ _ _ t0 w0
  obtain ⟨ns, n1, n2⟩ := q7v (f := q6o) (good := fun z => (Lit.int .i64 z).wf = true) Tryz.underlying22 c3 (by decide) (by rw [b3]; decide) (fun _ => rfl) (fun k _ => q47 Tryz.underlying3) _ _ _ t1 w1;obtain ⟨is, i1, i2⟩ := q7v (f := q2a) (good := fun t => raw t = true) Tryz.underlying68 c70 (by decide) b70 qo4 (fun k hk => ih k (by omega)) _ _ _ t2 w2;refine ⟨⟨z, ns, is⟩, ?_, ?_⟩
  ·have := bounds_i64 z1;show raw ⟨z, ns, is⟩ = true;rw [y3i];simp only [aT, dT'];exact ⟨by omega, n1.1, i1.1, y43 i1.2⟩
  ·show Shows w ([D.v (.int .i64 z)] ++ ([D.list (ns.map q6o)] ++ [D.list (q2y is)])) (cs.drop 0);rw [q5l];exact q4e (m := 1) rfl z2 (q4e (m := 1) rfl n2 (q93 i2 (by rw [hl, c70])))
theorem qm3 (n : Nat) : Opens enc Tryz.prog w spare held n 72 q2z (fun m => raw m.Trust = true) := by
 intro cs d p h hw;obtain ⟨m, rfl, hl, hf⟩ := q6a Tryz.underlying72 h hw;have c72 : Tryz.prog.cellsOf 72 = 4 := by kernel_rfl
 have c70 : Tryz.prog.cellsOf 70 = 3 := by kernel_rfl
 have c4 : Tryz.prog.cellsOf 4 = 1 := by kernel_rfl
 obtain ⟨d0, p0, t0, w0⟩ := hf 0 _ rfl;obtain ⟨d1, p1, t1, w1⟩ := hf 1 _ rfl;replace t0 : DataW.trod enc Tryz.prog w 0 spare held m 4 ((cs.drop 0).take (Tryz.prog.cellsOf 4)) = some (d0, p0) := t0;replace t1 : DataW.trod enc Tryz.prog w 0 spare held m 70 ((cs.drop 1).take (Tryz.prog.cellsOf 70)) = some (d1, p1) := t1;rw [c4] at t0; rw [c70] at t1;obtain ⟨b, _, z2⟩ := qtl Tryz.underlying4 _ _ _ t0 w0;obtain ⟨t, g1, g2⟩ := qpl _ _ _ _ t1 w1;refine ⟨⟨b, t⟩, g1, ?_⟩;obtain ⟨thr, ns, is⟩ := t;show Shows w ([D.v (.bool b)] ++ [.v (.int .i64 thr), .list (ns.map q6o), .list (is.map q2a)]) (cs.drop 0);rw [<- q5l];exact q4e (m := 1) rfl z2 (q93 g2 (by rw [hl, c72]))
theorem qdt (n : Nat) : Opens enc Tryz.prog w spare held n 27 q1j (fun c => ∀ m ∈ c.Members, raw m.Trust = true) := by
 intro cs d p h hw;obtain ⟨m, rfl, hl, hf⟩ := q6a Tryz.underlying27 h hw;have c27 : Tryz.prog.cellsOf 27 = 1 := by kernel_rfl
 have c72 : Tryz.prog.cellsOf 72 = 4 := by kernel_rfl
 have c25 : Tryz.prog.cellsOf 25 = 1 := by kernel_rfl
 have b72 : 8 <= Tryz.prog.bytesOf 72 := of_decide_eq_true (by kernel_rfl);obtain ⟨d0, p0, t0, w0⟩ := hf 0 _ rfl;replace t0 : DataW.trod enc Tryz.prog w 0 spare held m 25 ((cs.drop 0).take (Tryz.prog.cellsOf 25)) = some (d0, p0) := t0;rw [c25] at t0;obtain ⟨ms, g1, g2⟩ := q7v (f := q2z) (good := fun m => raw m.Trust = true) Tryz.underlying25 c72 (by decide) b72 (fun _ => rfl) (fun k _ => qm3 k) _ _ _ t0 w0;exact ⟨⟨ms⟩, g1.2, q93 g2 (by rw [hl, c27])⟩
theorem qex (n : Nat) : Opens enc Tryz.prog w spare held n 92 q1m (fun _ => True) := by
 intro cs d p h hw;obtain ⟨m, rfl, hl, hf⟩ := q6a Tryz.underlying92 h hw;have c0 : Tryz.prog.cellsOf 92 = 3 := by kernel_rfl
 have c1 : Tryz.prog.cellsOf 3 = 1 := by kernel_rfl
 obtain ⟨d0, p0, t0, w0⟩ := hf 0 _ rfl;replace t0 : DataW.trod enc Tryz.prog w 0 spare held m 3 ((cs.drop 0).take (Tryz.prog.cellsOf 3)) = some (d0, p0) := t0;rw [c1] at t0;obtain ⟨z0, _, s0⟩ := q47 Tryz.underlying3 _ _ _ t0 w0;obtain ⟨d1, p1, t1, w1⟩ := hf 1 _ rfl;replace t1 : DataW.trod enc Tryz.prog w 0 spare held m 3 ((cs.drop 1).take (Tryz.prog.cellsOf 3)) = some (d1, p1) := t1;rw [c1] at t1;obtain ⟨z1, _, s1⟩ := q47 Tryz.underlying3 _ _ _ t1 w1;obtain ⟨d2, p2, t2, w2⟩ := hf 2 _ rfl;replace t2 : DataW.trod enc Tryz.prog w 0 spare held m 3 ((cs.drop 2).take (Tryz.prog.cellsOf 3)) = some (d2, p2) := t2;rw [c1] at t2;obtain ⟨z2, _, s2⟩ := q47 Tryz.underlying3 _ _ _ t2 w2;refine ⟨⟨z0, z1, z2⟩, trivial, ?_⟩
 show Shows w ([D.v (.int .i64 z0)] ++ ([D.v (.int .i64 z1)] ++ [D.v (.int .i64 z2)])) (cs.drop 0);exact q4e (m := 1) rfl s0 (q4e (m := 1) rfl s1 (q93 s2 (by rw [hl, c0])))
theorem qdg (n : Nat) : Opens enc Tryz.prog w spare held n 51 q16 (fun x => x.Refutations.length < 1152921504606846976) := by
 intro cs d p h hw;obtain ⟨m, rfl, hl, hf⟩ := q6a Tryz.underlying51 h hw;have c0 : Tryz.prog.cellsOf 51 = 5 := by kernel_rfl
 have c1 : Tryz.prog.cellsOf 3 = 1 := by kernel_rfl
 have c2 : Tryz.prog.cellsOf 49 = 1 := by kernel_rfl
 have c3 : Tryz.prog.cellsOf 92 = 3 := by kernel_rfl
 have b3 : 8 <= Tryz.prog.bytesOf 92 := of_decide_eq_true (by kernel_rfl);obtain ⟨d0, p0, t0, w0⟩ := hf 0 _ rfl;replace t0 : DataW.trod enc Tryz.prog w 0 spare held m 3 ((cs.drop 0).take (Tryz.prog.cellsOf 3)) = some (d0, p0) := t0;rw [c1] at t0;obtain ⟨z0, _, s0⟩ := q47 Tryz.underlying3 _ _ _ t0 w0;obtain ⟨d1, p1, t1, w1⟩ := hf 1 _ rfl;replace t1 : DataW.trod enc Tryz.prog w 0 spare held m 3 ((cs.drop 1).take (Tryz.prog.cellsOf 3)) = some (d1, p1) := t1;rw [c1] at t1;obtain ⟨z1, _, s1⟩ := q47 Tryz.underlying3 _ _ _ t1 w1;obtain ⟨d2, p2, t2, w2⟩ := hf 2 _ rfl;replace t2 : DataW.trod enc Tryz.prog w 0 spare held m 3 ((cs.drop 2).take (Tryz.prog.cellsOf 3)) = some (d2, p2) := t2;rw [c1] at t2;obtain ⟨z2, _, s2⟩ := q47 Tryz.underlying3 _ _ _ t2 w2;obtain ⟨d3, p3, t3, w3⟩ := hf 3 _ rfl
 replace t3 : DataW.trod enc Tryz.prog w 0 spare held m 3 ((cs.drop 3).take (Tryz.prog.cellsOf 3)) = some (d3, p3) := t3;rw [c1] at t3;obtain ⟨z3, _, s3⟩ := q47 Tryz.underlying3 _ _ _ t3 w3;obtain ⟨d4, p4, t4, w4⟩ := hf 4 _ rfl;replace t4 : DataW.trod enc Tryz.prog w 0 spare held m 49 ((cs.drop 4).take (Tryz.prog.cellsOf 49)) = some (d4, p4) := t4;rw [c2] at t4;obtain ⟨rs, g1, s4⟩ := q7v (f := q1m) (good := fun _ => True) Tryz.underlying49 c3 (by decide) b3 (fun _ => rfl) (fun k _ => qex k) _ _ _ t4 w4;refine ⟨⟨z0, z1, z2, z3, rs⟩, g1.1, ?_⟩;show Shows w ([D.v (.int .i64 z0)] ++ ([D.v (.int .i64 z1)] ++ ([D.v (.int .i64 z2)] ++ ([D.v (.int .i64 z3)] ++ [D.list (rs.map q1m)])))) (cs.drop 0)
 exact q4e (m := 1) rfl s0 (q4e (m := 1) rfl s1 (q4e (m := 1) rfl s2 (q4e (m := 1) rfl s3 (q93 s4 (by rw [hl, c0])))))
end
end Go.Proofs.YtjfhnffdijlboaaGreat
namespace Go.Proofs.YtjfhnffdijlboaaGreat
open Go Go.Ab Go.ChangeShapes Go.WideShapes Go.ChangeAt Go.WideMaps Go.WideElems Go.RowKit
theorem Tryz.own : ownKnob Tryz.prog.godebug = none := by kernel_rfl
theorem Tryz.laidOut : laidOutB Tryz.prog = true := by kernel_rfl
end Go.Proofs.YtjfhnffdijlboaaGreat
