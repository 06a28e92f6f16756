/- Laws of the printed functions. -/
import Derived.Test.YthbpagedblodfaaGreatP19SegA
import Derived.Test.YthbpagedblodfaaGreatMachC
import Derived.Test.YthbpagedblodfaaGreatRows
import Derived.ProofKit
import Derived.LaidMore
import Derived.OpenShut
import Derived.Stop.Joined
namespace Go.Proofs.YthbpagedblodfaaGreat
open Go Go.Ab Go.Sort
instance : DecidableEq Claim := fun a b => decidable_of_iff (a.Topic = b.Topic ∧ a.Value = b.Value) (by cases a; cases b; simp)
def vcl (x : Claim) : Bool := decide (0 ≤ x.Topic) && (decide (x.Topic < 8) && (decide (0 ≤ x.Value) && decide (x.Value ≤ 15)))
theorem qxf {x : Claim} : vcl x = true ↔ 0 ≤ x.Topic ∧ x.Topic < 8 ∧ 0 ≤ x.Value ∧ x.Value ≤ 15 := by simp [vcl]
def ltc (a b : Claim) : Prop := a.Topic < b.Topic ∨ a.Topic = b.Topic ∧ a.Value < b.Value
instance (a b : Claim) : Decidable (ltc a b) := inferInstanceAs (Decidable (_ ∨ _ ∧ _))
theorem qcx {a b c : Claim} (h : ltc a b) (h' : ltc b c) : ltc a c := by unfold ltc at *; omega
theorem q3u (a : Claim) : ¬ ltc a a := by unfold ltc; omega
theorem qx8 {a b : Claim} (h : a ≠ b) (h' : ¬ ltc b a) : ltc a b := by
 have : ¬ (a.Topic = b.Topic ∧ a.Value = b.Value) := fun e => h (by cases a; cases b; simp_all)
 unfold ltc at *; omega
def cmpc (a b : Claim) : Int := if ltc a b then -1 else if a = b then 0 else 1
theorem eqc {a b : Claim} : ((eqB a.Topic b.Topic) && ((eqB a.Value b.Value) && true)) = decide (a = b) := by
 cases a; cases b; simp [eqB]
theorem qbd (x : Claim) : z5b x = some (vcl x) := by
 apply y59;unfold vcl leB ltB;by_cases h1 : 0 ≤ x.Topic <;> by_cases h2 : x.Topic < 8 <;> by_cases h3 : 0 ≤ x.Value <;> simp [h1, h2, h3]
theorem qir (x : Claim) : z6e x = some (vcl x) := by
 apply y4z;unfold vcl leB ltB;by_cases h1 : 0 ≤ x.Topic <;> by_cases h2 : x.Topic < 8 <;> by_cases h3 : 0 ≤ x.Value <;> simp [h1, h2, h3]
theorem qgu (x y : Int) : z3e x y = some (if x < y then -1 else if y < x then 1 else 0) := by
 have hn : ∀ z, z56 z = some false := fun z => y78 _ _ (by simp [neB])
 apply y3m;rw [hn, hn];by_cases h : x < y
 ·simp [ltB, h]
 ·by_cases h' : y < x <;> simp [ltB, h, h']
theorem qyx (x y : Int) : z6f [x, y] = some (if x ≠ 0 then x else y) := by
 apply y7w;apply quw;rw [q05 (by simp), q0r (y := x) (by omega) rfl];simp only [cT];by_cases h : x = 0
 ·subst h;simp only [q0t, cF];rw [show addI .i64 0 1 = 1 from rfl];apply quw;rw [q05 (by simp), q0r (y := y) (by omega) rfl];simp only [cT];by_cases h' : y = 0
  ·subst h';simp only [q0t, cF];rw [show addI .i64 1 1 = 2 from rfl];apply quw;rw [q01 (by simp)];simp
  ·rw [q2a h']; simp
 ·rw [q2a h]; simp [h]
theorem qtx (a b : Claim) : z09 a b = some (cmpc a b) := by
 apply y4m;rw [qgu, qgu];simp only [bS, qyx];cases a with | mk a1 a2 => cases b with | mk b1 b2 =>
 simp only [cmpc, ltc, Claim.mk.injEq];congr 1
 split <;> split <;> (try split) <;> (try split) <;> (try split) <;> omega
theorem qz5 (a b : Claim) : z62 a b = some (cmpc a b) := by
 apply y8a;rw [eqc];by_cases h : a = b
 ·subst h; simp [cmpc, q3u]
 ·have : ¬ (a.Topic = b.Topic ∧ a.Value = b.Value) := fun e => h (by cases a; cases b; simp_all)
  simp only [h, decide_false, cF, cmpc, ltc, ltB, eqB];by_cases h1 : a.Topic < b.Topic
  ·simp [h1]
  ·by_cases h2 : a.Topic = b.Topic
   ·by_cases h3 : a.Value < b.Value <;> simp [h2, h3]
   ·simp [h1, h2]
def plainC : List Claim → Bool
 | [] => true
 | [x] => vcl x
 | x :: y :: r => vcl x && (decide (ltc x y) && plainC (y :: r))
theorem qft {x y : Claim} {r : List Claim} : plainC (x :: y :: r) = (vcl x && (decide (ltc x y) && plainC (y :: r))) := rfl
theorem q0q : ∀ {l : List Claim}, plainC l = true ↔ (∀ x ∈ l, vcl x = true) ∧ l.Pairwise ltc
 | [] => by simp [plainC]
 | [x] => by simp [plainC]
 | x :: y :: r => by
  rw [qft, aT, aT, dT', q0q (l := y :: r), List.pairwise_cons (a := x)];constructor
  ·rintro ⟨h1, h2, h3, h4⟩;refine ⟨fun z hz => by rcases List.mem_cons.1 hz with rfl | hz; exact h1; exact h3 z hz, fun z hz => ?_, h4⟩;rcases List.mem_cons.1 hz with rfl | hz
   ·exact h2
   ·exact qcx h2 ((List.pairwise_cons.1 h4).1 z hz)
  ·rintro ⟨h1, h2, h3⟩;exact ⟨h1 x (by simp), h2 y (by simp), fun z hz => h1 z (by simp [hz]), h3⟩
theorem y1v {a b : Claim} : leB 0 (cmpc a b) = !decide (ltc a b) := by
 unfold cmpc leB;by_cases h : ltc a b
 ·simp [h]
 ·by_cases h' : a = b
  ·subst h'; simp [q3u]
  ·simp [h, h']
theorem y1c {a b : Claim} : ltB (cmpc a b) 0 = decide (ltc a b) := by
 unfold cmpc ltB;by_cases h : ltc a b
 ·simp [h]
 ·by_cases h' : a = b
  ·subst h'; simp [q3u]
  ·simp [h, h']
def plP : Option Claim → List Claim → Bool
 | _, [] => true
 | none, y :: r => vcl y && plP (some y) r
 | some z, y :: r => vcl y && (decide (ltc z y) && plP (some y) r)
theorem qq8 : ∀ {z : Claim} {l : List Claim}, vcl z = true → plP (some z) l = plainC (z :: l)
 | z, [], h => by simp [plP, plainC, h]
 | z, y :: r, h => by
  rw [qft, h, tA', plP];by_cases hy : vcl y = true
  ·rw [qq8 hy, hy, tA']
  ·have : plainC (y :: r) = false := by
    cases hp : plainC (y :: r) with
    | false => rfl
    | true => exact absurd ((q0q.1 hp).1 y (by simp)) hy
   rw [this]; simp [hy]
theorem qqp (l : List Claim) : plP none l = plainC l := by
 cases l with
 | nil => rfl
 | cons y r =>
  rw [plP];by_cases hy : vcl y = true
  ·rw [hy, tA', qq8 hy]
  ·have : plainC (y :: r) = false := by
    cases hp : plainC (y :: r) with
    | false => rfl
    | true => exact absurd ((q0q.1 hp).1 y (by simp)) hy
   rw [this]; simp [hy]
theorem qlw (l : List Claim) (hl : l.length < 1152921504606846976) : ∀ (suf : List Claim) (i : Nat) (z : Claim), l[i]? = some z → l.drop (i + 1) = suf → z2f l l ((l.length : Nat) : Int) ((i + 1 : Nat) : Int) = some (plP (some z) suf)
 | [], i, z, hz, h => by
  apply qrk;rw [q0h h]; rfl
 | y :: suf, i, z, hz, h => by
  have hlt := q0e h;apply qrk;rw [q06 h, cT, q04 h, qbd, bS, q05 (by omega), cT, q2d (by omega) (by omega), q0r (y := z) (by omega) (by rw [show (((i + 1 : Nat) : Int) - 1).toNat = i by omega]; exact hz), qtx, bS, y1v, q00 (by omega),
   qlw l hl suf (i + 1) y (by have := congrArg (·[0]?) h; simpa using this) (q02 h)]
  rw [plP];cases vcl y <;> by_cases hc : ltc z y <;> simp [hc]
theorem q8d (l : List Claim) (hl : l.length < 1152921504606846976) : z3q l = some (plainC l) := by
 apply y54;rw [← qqp];cases l with
 | nil =>
  apply qrk;simp [ltB, plP]
 | cons y r =>
  apply qrk;have h : (y :: r).drop 0 = y :: r := rfl;have h0 : ltB 0 (((y :: r).length : Nat) : Int) = true := q05 (by rw [List.length_cons]; omega);rw [h0, cT, q0r (y := y) (by omega) rfl, qbd, bS, q01 (by omega), cF, show addI .i64 0 1 = ((0 + 1 : Nat) : Int) from rfl, qlw (y :: r) hl r 0 y rfl rfl, plP];cases vcl y <;> simp
theorem qml (l : List Claim) (hl : l.length < 1152921504606846976) : ∀ (suf : List Claim) (i : Nat) (z : Claim), l[i]? = some z → l.drop (i + 1) = suf → z2p l l ((l.length : Nat) : Int) ((i + 1 : Nat) : Int) = some (plP (some z) suf)
 | [], i, z, hz, h => by
  apply qru;rw [q0h h]; rfl
 | y :: suf, i, z, hz, h => by
  have hlt := q0e h;apply qru;rw [q06 h, cT, q04 h, qir, bS, q05 (by omega), cT, q2d (by omega) (by omega), q0r (y := z) (by omega) (by rw [show (((i + 1 : Nat) : Int) - 1).toNat = i by omega]; exact hz), qz5, bS, y1v, q00 (by omega),
   qml l hl suf (i + 1) y (by have := congrArg (·[0]?) h; simpa using this) (q02 h)]
  rw [plP];cases vcl y <;> by_cases hc : ltc z y <;> simp [hc]
theorem q98 (l : List Claim) (hl : l.length < 1152921504606846976) : z4b l = some (plainC l) := by
 apply y66;rw [← qqp];cases l with
 | nil =>
  apply qru;simp [ltB, plP]
 | cons y r =>
  apply qru;have h0 : ltB 0 (((y :: r).length : Nat) : Int) = true := q05 (by rw [List.length_cons]; omega);rw [h0, cT, q0r (y := y) (by omega) rfl, qir, bS, q01 (by omega), cF, show addI .i64 0 1 = ((0 + 1 : Nat) : Int) from rfl, qml (y :: r) hl r 0 y rfl rfl, plP];cases vcl y <;> simp
theorem qv6 (l : List Claim) (hl : l.length < 1152921504606846976) (x : Claim) : ∀ (suf : List Claim) (i : Nat), l.drop i = suf → z5d l ((l.length : Nat) : Int) (i : Int) x.Topic x.Value = some (decide (x ∈ suf))
 | [], i, h => by
  apply qzs;rw [q0h h]; simp
 | y :: suf, i, h => by
  have hlt := q0e h;apply qzs;rw [q06 h, cT, q04 h, eqc, q00 (by omega), qv6 l hl x suf (i + 1) (q02 h)];by_cases hx : x = y <;> simp [hx]
theorem q8i (l : List Claim) (hl : l.length < 1152921504606846976) (x : Claim) : z4i l x = some (decide (x ∈ l)) := by
 apply y3z;exact qv6 l hl x l 0 rfl
theorem qwv (l : List Claim) (hl : l.length < 1152921504606846976) (x : Claim) : ∀ (suf : List Claim) (i : Nat), l.drop i = suf → ∃ r : Int, z1m l ((l.length : Nat) : Int) (i : Int) x.Topic x.Value = some r ∧ leB 0 r = decide (x ∈ suf)
 | [], i, h => by
  refine ⟨-1, qx0 _ _ _ _ _ _ ?_, by simp [leB]⟩;rw [q0h h]; simp
 | y :: suf, i, h => by
  have hlt := q0e h;obtain ⟨r, h1, h2⟩ := qwv l hl x suf (i + 1) (q02 h);by_cases hx : x = y
  ·refine ⟨i, qx0 _ _ _ _ _ _ ?_, by simp [leB, hx]⟩;rw [q06 h, cT, q04 h, eqc]; simp [hx]
  ·refine ⟨r, qx0 _ _ _ _ _ _ ?_, by rw [h2]; simp [hx]⟩;rw [q06 h, cT, q04 h, eqc, q00 (by omega), decide_eq_false hx, cF, h1]
theorem qhk (l : List Claim) (hl : l.length < 1152921504606846976) (x : Claim) : z4w l x = some (decide (x ∈ l)) := by
 obtain ⟨r, h1, h2⟩ := qwv l hl x l 0 rfl;apply y87;have h3 : z2x l x = some r := y7q _ _ _ h1;have : z2i l x = some (decide (x ∈ l)) := by
  apply y8d;rw [h3, bS, h2]
 rw [this]; rfl
theorem qnu (l k : List Claim) (hl : l.length < 1152921504606846976) (hk : l.length = k.length) : ∀ (suf suk : List Claim) (i : Nat), l.drop i = suf → k.drop i = suk → z4p l k ((l.length : Nat) : Int) (i : Int) = some (decide (suf = suk))
 | [], suk, i, h, h' => by
  have : suk = [] := by rw [← h', List.drop_eq_nil_iff, ← hk]; exact List.drop_eq_nil_iff.1 h
  subst this;apply y0t;rw [q0h h]; simp
 | y :: suf, [], i, h, h' => by
  have := q0e h;have := List.drop_eq_nil_iff.1 h';omega
 | y :: suf, z :: suk, i, h, h' => by
  have hlt := q0e h;apply y0t;rw [q06 h, cT, q04 h, q04 h', eqc, q00 (by omega), qnu l k hl hk suf suk (i + 1) (q02 h) (q02 h')];by_cases hx : y = z <;> simp [hx]
theorem q4k (l k : List Claim) (hl : l.length < 1152921504606846976) : z3b l k = some (decide (l = k)) := by
 apply y8j;by_cases hk : l.length = k.length
 ·rw [hk, q0t, cF, ← hk];exact qnu l k hl hk l k 0 rfl rfl
 ·rw [q2a (by omega), cT];have : l ≠ k := fun e => hk (by rw [e])
  simp [this]
theorem qlu (l k : List Claim) (hl : l.length < 1152921504606846976) (hk : l.length = k.length) : ∀ (suf suk : List Claim) (i : Nat), l.drop i = suf → k.drop i = suk → z1u l k ((l.length : Nat) : Int) (i : Int) = some (decide (suf = suk))
 | [], suk, i, h, h' => by
  have : suk = [] := by rw [← h', List.drop_eq_nil_iff, ← hk]; exact List.drop_eq_nil_iff.1 h
  subst this;apply qzx;rw [q0h h]; simp
 | y :: suf, [], i, h, h' => by
  have := q0e h;have := List.drop_eq_nil_iff.1 h';omega
 | y :: suf, z :: suk, i, h, h' => by
  have hlt := q0e h;apply qzx;rw [q06 h, cT, q04 h, q04 h', eqc, q00 (by omega), qlu l k hl hk suf suk (i + 1) (q02 h) (q02 h')];by_cases hx : y = z <;> simp [hx]
theorem qmm (l k : List Claim) (hl : l.length < 1152921504606846976) : z2d l k = some (decide (l = k)) := by
 apply y7f;by_cases hk : l.length = k.length
 ·rw [hk, q0t, cF, ← hk];exact qlu l k hl hk l k 0 rfl rfl
 ·rw [q2a (by omega), cT];have : l ≠ k := fun e => hk (by rw [e])
  simp [this]
def allC : List Claim := (List.range 8).flatMap fun (i : Nat) => (List.range 16).map fun (k : Nat) => ⟨(i : Int), (k : Int)⟩
def q0l (l : List Claim) : List Claim := allC.filter fun x => decide (x ∈ l)
theorem qy3 {x : Claim} : x ∈ allC ↔ vcl x = true := by
 rw [qxf, allC];simp only [List.mem_flatMap, List.mem_map, List.mem_range];constructor
 ·rintro ⟨i, hi, k, hk, rfl⟩; dsimp only; omega
 ·rintro ⟨h1, h2, h3, h4⟩;exact ⟨x.Topic.toNat, by omega, x.Value.toNat, by omega, by cases x; simp_all; omega⟩
theorem qzd : allC.Pairwise ltc := by decide +kernel
theorem q1m {x : Claim} {l : List Claim} : x ∈ q0l l ↔ vcl x = true ∧ x ∈ l := by simp [q0l, qy3]
theorem qat (l : List Claim) : (q0l l).Pairwise ltc := List.Pairwise.filter _ qzd
theorem q3p (l : List Claim) : (q0l l).length ≤ 128 := by
 have : allC.length = 128 := by decide +kernel
 rw [← this]; exact List.length_filter_le _ _
theorem q15 (l : List Claim) : plainC (q0l l) = true := q0q.2 ⟨fun _x hx => (q1m.1 hx).1, qat l⟩
theorem qpo : ∀ {l k : List Claim}, l.Pairwise ltc → k.Pairwise ltc → (∀ x, x ∈ l ↔ x ∈ k) → l = k
 | [], [], _, _, _ => rfl
 | [], y :: k, _, _, h => by have := (h y).2 (by simp); cases this
 | x :: l, [], _, _, h => by have := (h x).1 (by simp); cases this
 | x :: l, y :: k, h1, h2, h => by
  rw [List.pairwise_cons] at h1 h2;have hxy : x = y := by
   by_cases e : x = y
   ·exact e
   ·have hx : x ∈ k := by rcases List.mem_cons.1 ((h x).1 (by simp)) with h | h; exact absurd h e; exact h
    have hy : y ∈ l := by rcases List.mem_cons.1 ((h y).2 (by simp)) with h | h; exact absurd h.symm e; exact h
    exact absurd (qcx (h1.1 y hy) (h2.1 x hx)) (q3u x)
  subst hxy;rw [qpo h1.2 h2.2 fun z => ?_];constructor
  ·intro hz;rcases List.mem_cons.1 ((h z).1 (by simp [hz])) with e | h'
   ·subst e; exact absurd (h1.1 z hz) (q3u z)
   ·exact h'
  ·intro hz;rcases List.mem_cons.1 ((h z).2 (by simp [hz])) with e | h'
   ·subst e; exact absurd (h2.1 z hz) (q3u z)
   ·exact h'
theorem qdf {l k : List Claim} (h1 : plainC l = true) (h2 : plainC k = true) (h : ∀ x, x ∈ l ↔ x ∈ k) : l = k := qpo (q0q.1 h1).2 (q0q.1 h2).2 h
theorem qsc {l : List Claim} (h : plainC l = true) : q0l l = l := qdf (q15 l) h fun x => by rw [q1m]; exact ⟨fun h => h.2, fun hx => ⟨(q0q.1 h).1 x hx, hx⟩⟩
theorem q5u {x : Claim} : ∀ {l : List Claim}, x ∈ q0a l ↔ x ∈ l
 | [] => Iff.rfl
 | [y] => Iff.rfl
 | y :: z :: r => by
  rw [q1g];split
  ·rename_i e;subst e;rw [q5u (l := y :: r)]; simp
  ·simp only [List.mem_cons, q5u (l := z :: r)]
theorem q8k : ∀ {l : List Claim}, l.Pairwise (fun x y => ¬ ltc y x) → (q0a l).Pairwise ltc
 | [], _ => List.Pairwise.nil
 | [y], _ => by simp [q0a]
 | y :: z :: r, h => by
  rw [List.pairwise_cons] at h;rw [q1g];split
  ·exact q8k h.2
  ·rename_i e;refine List.pairwise_cons.2 ⟨fun u hu => ?_, q8k h.2⟩;have hyz := qx8 e (h.1 z (by simp));rcases List.mem_cons.1 (q5u.1 hu) with rfl | hu
   ·exact hyz
   ·by_cases e2 : z = u
    ·subst e2; exact hyz
    ·exact qcx hyz (qx8 e2 ((List.pairwise_cons.1 h.2).1 u hu))
theorem qqt (l : List Claim) (hl : l.length < 1152921504606846976) (i : Nat) (hi : i < 8) (Q : List Claim → Prop) (hQ : ∀ acc : List Claim, acc.length ≤ 16 * (i + 1) → ∃ r, z2v l acc ((i + 1 : Nat) : Int) = some (acc ++ r) ∧ Q r) : ∀ (n k : Nat) (acc : List Claim), k + n = 16 → acc.length ≤ 16 * i + k →
  ∃ r, z2g l acc (i : Int) (k : Int) = some (acc ++ (((List.range' k n).map fun (k : Nat) => (⟨(i : Int), (k : Int)⟩ : Claim)).filter fun x => decide (x ∈ l)) ++ r) ∧ Q r
 | 0, k, acc, hk, ha => by
  obtain ⟨r, h1, h2⟩ := hQ acc (by omega);refine ⟨r, qxc _ _ _ _ _ ?_, h2⟩;rw [q0f (by omega), cF, q00 (by omega), h1];simp
 | n + 1, k, acc, hk, ha => by
  have step := fun acc' h => qqt l hl i hi Q hQ n (k + 1) acc' (by omega) h
  by_cases hx : (⟨(i : Int), (k : Int)⟩ : Claim) ∈ l
  ·obtain ⟨r, h1, h2⟩ := step (acc ++ [⟨(i : Int), (k : Int)⟩]) (by simp; omega);refine ⟨r, qxc _ _ _ _ _ ?_, h2⟩;rw [q0g (by omega), cT, q8i l hl, bS, decide_eq_true hx, cT, q0j (by simp [q0b]; omega), q00 (by omega), h1];simp [List.range'_succ, hx]
  ·obtain ⟨r, h1, h2⟩ := step acc (by omega);refine ⟨r, qxc _ _ _ _ _ ?_, h2⟩;rw [q0g (by omega), cT, q8i l hl, bS, decide_eq_false hx, cF, q00 (by omega), h1];simp [List.range'_succ, hx]
theorem qr2 (l : List Claim) (hl : l.length < 1152921504606846976) : ∀ (n i : Nat) (acc : List Claim), i + n = 8 → acc.length ≤ 16 * i →
  ∃ r, z2v l acc (i : Int) = some (acc ++ r) ∧ r = (((List.range' i n).flatMap fun (i : Nat) => (List.range 16).map fun (k : Nat) => (⟨(i : Int), (k : Int)⟩ : Claim)).filter fun x => decide (x ∈ l))
 | 0, i, acc, hi, ha => by
  refine ⟨[], y1s _ _ _ _ ?_, rfl⟩;rw [q01 (by omega)]; simp
 | n + 1, i, acc, hi, ha => by
  obtain ⟨r, h1, h2⟩ := qqt l hl i (by omega) (fun r => r = (((List.range' (i + 1) n).flatMap fun (i : Nat) => (List.range 16).map fun (k : Nat) => (⟨(i : Int), (k : Int)⟩ : Claim)).filter fun x => decide (x ∈ l))) (fun acc' h => qr2 l hl n (i + 1) acc' (by omega) (by omega)) 16 0 acc (by omega) (by omega);refine ⟨_, y1s _ _ _ _ ?_, rfl⟩;rw [q05 (by omega), cT];have h1' : z2g l acc (i : Int) 0 = _ := h1;rw [h1', h2, List.append_assoc];simp only [List.range'_succ, List.flatMap_cons, List.filter_append, List.range_eq_range']
theorem q9x (l : List Claim) (hl : l.length < 1152921504606846976) : z4f l = some (q0l l) := by
 apply y60;obtain ⟨r, h1, h2⟩ := qr2 l hl 8 0 [] rfl (by simp);have h1' : z2v l [] 0 = _ := h1;rw [h1', h2, List.nil_append, q0l, allC, List.range_eq_range' (n := 8)]
theorem q9g (a b : List Claim) (ha : a.length < 1000000) (hb : b.length < 1000000) : z4c a b = some (q0l (a ++ b)) := by
 apply y6y;rw [q0j (by simp [q0b]; omega), q0j (by simp [q0b]; omega), List.nil_append, q9x _ (by simp; omega)];rfl
theorem qvp (l : List Claim) (hl : l.length < 1152921504606846976) (hv : ∀ x ∈ l, vcl x = true) : ∀ (suf : List Claim) (i : Nat), l.drop i = suf → z0x ((l.length : Nat) : Int) (i : Int) l = some (-1, l)
 | [], i, h => by
  apply y0d;rw [q0h h]; simp
 | y :: suf, i, h => by
  have hlt := q0e h;apply y0d;have hy : vcl y = true := hv y (List.mem_of_mem_drop (i := i) (by rw [h]; simp));have h1 : z5j y = some false := y85 _ _ (by rw [qbd, hy]; rfl);have hg : l[i]? = some y := by have := congrArg (·[0]?) h; simpa using this
  rw [q06 h, cT, q04 h, tN, q3n hg, h1, bS, cF, q00 (by omega), qvp l hl hv suf (i + 1) (q02 h)]
theorem qmt (l : List Claim) : (l.map q0m).all flatD = true := by
 rw [List.all_eq_true]; intro x hx; obtain ⟨y, _, rfl⟩ := List.mem_map.1 hx; rfl
theorem qes (l : List Claim) : (l.map q0m).all (q4e 2) = true := by
 rw [List.all_eq_true]; intro x hx; obtain ⟨y, _, rfl⟩ := List.mem_map.1 hx; rfl
theorem qpa (l : List Claim) (hl : l.length < 1000000) : z60 l = some (q0a l, ()) := by
 refine qcy (T := tn) (m := q59 2) sigOk (by kernel_rfl) rfl ?_;show libA (q59 2) [.ref 0] [[.own (l.map q0m) false]] = some (.d (.list ((q0a l).map q0m)), [[.undef]]);unfold libA q59;have h1 : (l.map q0m).length ≤ q0b := by simp [q0b]; omega
 simp only [qmt, qes, h1, and_self, if_true];rw [q8t (fun a b h => q4h a b h) l];rfl
theorem qjq (l : List Claim) (hl : l.length < 65536) (hv : ∀ x ∈ l, vcl x = true) : z5e l = some (q0l l) := by
 apply y7a;have h1 : z18 l = some ((), l) := y1p _ _ (by rw [q0j (by simp [q0b]; omega)]; rfl);have h2 : z1h l = some ((), l) := by
  apply y4k;rw [y6d _ _ (qvp l (by omega) hv l 0 rfl)];rfl
 have hS : SWO (fun x y => ltB (cmpc x y) 0) := by
  refine ⟨fun x => ?_, fun x y z h h' => ?_, fun x y z h h' => ?_⟩ <;> simp only [y1c, dT', decide_eq_false_iff_not] at *
  ·exact q3u x
  ·exact qcx h h'
  ·unfold ltc at *; omega
 obtain ⟨ys, h3, h4, h5⟩ := y2p qtx hS l hl;have h6 : z1d l = some ys := h3;rw [h1, bS, h2, bS, h6, bS, qpa ys (by rw [h4.length_eq]; omega)];show some (q0a ys) = _;congr 1
 refine qpo (q8k (h5.imp fun h => by simpa [y1c] using h)) (qat l) fun x => ?_
 rw [q5u, q1m, h4.mem_iff];exact ⟨fun h => ⟨hv x h, h⟩, fun h => h.2⟩
theorem qsl (a b : List Claim) (ha : a.length < 1000000) (hb : b.length < 1000000) : z66 [a, b] = some ((), a ++ b) := by
 refine qcy (T := tn) (m := q6g 2) sigOk (by kernel_rfl) rfl ?_;show libA (q6g 2) [.d (.list [.list (a.map q0m), .list (b.map q0m)])] [] = some (.ref 0, [[.own ((a ++ b).map q0m) false]]);unfold libA q6g;have h0 : qde [.list (a.map q0m), .list (b.map q0m)] = some [a.map q0m, b.map q0m] := rfl;have h1 : ([a.map q0m, b.map q0m] : List (List D)).flatten.length ≤ q0b := by simp [q0b]; omega
 have h2 : ([.list (a.map q0m), .list (b.map q0m)] : List D).length ≤ q0b := by simp [q0b]
 have h3 : ([a.map q0m, b.map q0m] : List (List D)).flatten = (a ++ b).map q0m := by simp
 simp only [h0, h2, h3, qes, and_self];rw [h3] at h1;rw [if_pos ⟨h1, trivial⟩];rfl
theorem qw1 (a b : List Claim) (ha : a.length < 30000) (hb : b.length < 30000) (hva : ∀ x ∈ a, vcl x = true) (hvb : ∀ x ∈ b, vcl x = true) : z68 a b = some (q0l (a ++ b)) := by
 apply y3k;rw [qsl a b (by omega) (by omega), bS, qjq (a ++ b) (by simp; omega) (fun x hx => (List.mem_append.1 hx).elim (hva x) (hvb x))];rfl
theorem qoq (a : List Claim) (x : Claim) (ha : a.length < 30000) (hva : ∀ x ∈ a, vcl x = true) (hx : vcl x = true) : z5x a x = some (q0l (a ++ [x])) := by
 apply y6x;rw [qw1 a [x] ha (by simp) hva (fun y hy => by simp at hy; subst hy; exact hx)];rfl
def Contra (a b : Claim) : Prop := a.Topic = b.Topic ∧ a.Value ≠ b.Value
instance (a b : Claim) : Decidable (Contra a b) := inferInstanceAs (Decidable (_ ∧ _))
theorem Contra.symm {a b : Claim} (h : Contra a b) : Contra b a := ⟨h.1.symm, fun e => h.2 e.symm⟩
def consC (l : List Claim) : Bool := decide (∀ x ∈ l, ∀ y ∈ l, ¬ Contra x y)
theorem q4l {l : List Claim} : consC l = true ↔ ∀ x ∈ l, ∀ y ∈ l, ¬ Contra x y := by simp [consC]
theorem qsz (a b : Claim) : z4q a b = some (decide (Contra a b)) := by
 apply y4r;by_cases h : a.Topic = b.Topic <;> by_cases h' : a.Value = b.Value <;> simp [eqB, neB, Contra, h, h']
theorem qj5 (a b : Claim) : z48 a b = some (decide (Contra a b)) := by
 apply y7y;by_cases h : a.Topic = b.Topic <;> by_cases h' : a.Value = b.Value <;> simp [eqB, neB, Contra, h, h']
theorem qrb (l : List Claim) (i : Nat) (x : Claim) (p : List Claim) (hp : p.length < 1152921504606846976) (hi : i < 1152921504606846976) (r : Bool) (hr : z21 l l ((l.length : Nat) : Int) ((i + 1 : Nat) : Int) = some r) : ∀ (suf : List Claim) (k : Nat), p.drop k = suf →
  z28 l l ((l.length : Nat) : Int) (i : Int) p ((p.length : Nat) : Int) (k : Int) x.Topic x.Value = some (decide (∀ y ∈ suf, ¬ Contra x y) && r)
 | [], k, h => by
  apply y01;rw [q0h h, cF, q00 (by omega), hr]; simp
 | y :: suf, k, h => by
  have hlt := q0e h;apply y01;rw [q06 h, cT, q04 h, qj5, bS, q00 (by omega), qrb l i x p hp hi r hr suf (k + 1) (q02 h)];by_cases hx : Contra x y <;> simp [hx]
def consF : List Claim → List Claim → Bool
 | _, [] => true
 | p, y :: r => decide (∀ z ∈ p, ¬ Contra y z) && consF (p ++ [y]) r
theorem qql (l : List Claim) (hl : l.length < 1152921504606846976) : ∀ (suf : List Claim) (i : Nat), l.drop i = suf → z21 l l ((l.length : Nat) : Int) (i : Int) = some (consF (l.take i) suf)
 | [], i, h => by
  apply y1h;simp [q0h h, consF]
 | y :: suf, i, h => by
  have hlt := q0e h;have hg : l[i]? = some y := by have := congrArg (·[0]?) h; simpa using this
  apply y1h;have htk : l.take (i + 1) = l.take i ++ [y] := by rw [List.take_add_one, hg]; rfl
  rw [q06 h, cT, q04 h, qc3 (by omega) (by omega), tN, List.drop_zero];have := qrb l i y (l.take i) (by simp; omega) (by omega) _ (qql l hl suf (i + 1) (q02 h)) (l.take i) 0 rfl;have h' : z28 l l ((l.length : Nat) : Int) (i : Int) (l.take i) (((l.take i).length : Nat) : Int) 0 y.Topic y.Value = _ := this;rw [h', htk, consF]
theorem qnh : ∀ (r p : List Claim), consF p r = true ↔ (∀ y ∈ r, ∀ z ∈ p, ¬ Contra y z) ∧ consC r = true
 | [], p => by simp [consF, consC]
 | y :: r, p => by
  rw [consF, aT, dT', qnh r (p ++ [y]), q4l, q4l];constructor
  ·rintro ⟨h1, h2, h3⟩;refine ⟨fun u hu z hz => ?_, fun u hu z hz => ?_⟩
   ·rcases List.mem_cons.1 hu with rfl | hu
    ·exact h1 z hz
    ·exact h2 u hu z (by simp [hz])
   ·rcases List.mem_cons.1 hu with e | hu' <;> rcases List.mem_cons.1 hz with e' | hz'
    ·subst e; subst e'; intro h; exact h.2 rfl
    ·subst e; intro h; exact h2 z hz' u (by simp) h.symm
    ·subst e'; exact h2 u hu' z (by simp)
    ·exact h3 u hu' z hz'
  ·rintro ⟨h1, h2⟩;exact ⟨h1 y (by simp), fun u hu z hz => by
    rcases List.mem_append.1 hz with hz | hz
    ·exact h1 u (by simp [hu]) z hz
    ·simp at hz; subst hz; exact h2 u (by simp [hu]) z (by simp), fun u hu z hz => h2 u (by simp [hu]) z (by simp [hz])⟩
theorem qkv (l : List Claim) (hl : l.length < 1152921504606846976) : z26 l = some (consC l) := by
 apply y50;have h : z21 l l ((l.length : Nat) : Int) 0 = _ := qql l hl l 0 rfl;rw [h, List.take_zero];congr 1
 rw [Bool.eq_iff_iff, qnh];simp
theorem qex : ∀ (l : List Claim), (∀ x ∈ l, vcl x = true) → qdd (l.map q0m) = some (l.map fun x => (x.Topic, x.Value))
 | [], _ => rfl
 | x :: r, h => by
  have hx := qxf.1 (h x (by simp));show (if _ then _ else _) = _;rw [if_pos (by omega)];rw [qex r fun y hy => h y (by simp [hy])]; rfl
theorem qdu : ∀ (l : List Claim), q2s (l.map fun x => (x.Topic, x.Value)) = consC l
 | [] => rfl
 | x :: r => by
  rw [List.map_cons, q2s, qdu r, Bool.eq_iff_iff, aT, q4l, q4l, List.all_eq_true];simp only [List.mem_map, forall_exists_index, and_imp, forall_apply_eq_imp_iff₂];constructor
  ·rintro ⟨h1, h2⟩ u hu z hz;have h1' : ∀ a ∈ r, ¬ Contra x a := fun a ha hc => by
    have := h1 a ha;simp [hc.1, hc.2] at this
   rcases List.mem_cons.1 hu with e | hu' <;> rcases List.mem_cons.1 hz with e' | hz'
   ·subst e; subst e'; intro h; exact h.2 rfl
   ·subst e; exact h1' z hz'
   ·subst e'; intro h; exact h1' u hu' h.symm
   ·exact h2 u hu' z hz'
  ·intro h;refine ⟨fun a ha => ?_, fun u hu z hz => h u (by simp [hu]) z (by simp [hz])⟩;have := h x (by simp) a (by simp [ha]);simp only [Contra, not_and, ne_eq, Classical.not_not] at this;by_cases e : x.Topic = a.Topic
   ·simp [this e]
   ·simp [e]
theorem qk9 (l : List Claim) (hl : l.length < 1000000) (hv : ∀ x ∈ l, vcl x = true) : z5p l = some (consC l) := by
 refine qcy (T := tn) (m := q3d) sigOk (by kernel_rfl) rfl ?_;show libA q3d [.d (.list (l.map q0m))] [] = some (.d (.v (.bool (consC l))), []);unfold libA q3d;simp only [qex l hv, qdu];rw [if_pos (by simp [q0b]; omega)];rfl
end Go.Proofs.YthbpagedblodfaaGreat
namespace Go.Proofs.YthbpagedblodfaaGreat
open Go Go.Ab
noncomputable instance : DecidableEq Trust := fun a b => Classical.propDecidable (a = b)
theorem Trust.etaM (t : Trust) : Trust.mk t.Threshold t.Nodes t.Inner = t := by cases t; rfl
theorem q93 (t : Trust) : eqB (verr t) 0 = valid t := by
 have := q57 t;cases h : valid t with
 | true => rw [h] at this; simp [eqB, this.2 rfl]
 | false => rw [h] at this; simp only [fT, iff_false] at this; simp [eqB, this]
theorem qnq (t : Trust) : neB (verr t) 0 = !valid t := by
 rw [← q93]; simp [neB, eqB]
theorem qlo (l k : List Int) (hl : l.length < 1152921504606846976) (hk : l.length = k.length) : ∀ (suf suk : List Int) (i : Nat), l.drop i = suf → k.drop i = suk → z1w l k ((l.length : Nat) : Int) (i : Int) = some (decide (suf = suk))
 | [], suk, i, h, h' => by
  have : suk = [] := by rw [← h', List.drop_eq_nil_iff, ← hk]; exact List.drop_eq_nil_iff.1 h
  subst this;apply y0k;rw [q0h h]; simp
 | y :: suf, [], i, h, h' => by
  have := q0e h;have := List.drop_eq_nil_iff.1 h';omega
 | y :: suf, z :: suk, i, h, h' => by
  have hlt := q0e h;apply y0k;rw [q06 h, cT, q04 h, q04 h', q00 (by omega), qlo l k hl hk suf suk (i + 1) (q02 h) (q02 h')];by_cases hx : y = z
  ·subst hx; rw [q0t]; simp
  ·rw [q2a hx]; simp [hx]
theorem qvz (l k : List Int) (hl : l.length < 1152921504606846976) : z38 l k = some (decide (l = k)) := by
 apply y7g;by_cases hk : l.length = k.length
 ·rw [hk, q0t, cF, ← hk];exact qlo l k hl hk l k 0 rfl rfl
 ·rw [q2a (by omega), cT];have : l ≠ k := fun e => hk (by rw [e])
  simp [this]
theorem qvt (l k : List Trust) (hl : l.length < 1152921504606846976) (hk : l.length = k.length) (hf : ∀ x ∈ l, ∀ y, z3i x y = some (decide (x = y))) : ∀ (suf suk : List Trust) (i : Nat), l.drop i = suf → k.drop i = suk → z0h k l ((l.length : Nat) : Int) (i : Int) = some (decide (suf = suk))
 | [], suk, i, h, h' => by
  have : suk = [] := by rw [← h', List.drop_eq_nil_iff, ← hk]; exact List.drop_eq_nil_iff.1 h
  subst this;apply y00;rw [q0h h]; simp
 | y :: suf, [], i, h, h' => by
  have := q0e h;have := List.drop_eq_nil_iff.1 h';omega
 | y :: suf, z :: suk, i, h, h' => by
  have hlt := q0e h;apply y00;rw [q06 h, cT, q04 h, q04 h', hf y (List.mem_of_mem_drop (i := i) (by rw [h]; simp)), bS, q00 (by omega), qvt l k hl hk hf suf suk (i + 1) (q02 h) (q02 h')];by_cases hx : y = z <;> simp [hx]
theorem qqz : ∀ a : Trust, Small a → ∀ b : Trust, z3i a b = some (decide (a = b)) := by
 apply Trust.ind;intro a ih ha b;have hn := ha.nodes;have hi := ha.inner;apply y3h;have h1 : z1b a.Inner b.Inner = some (decide (a.Inner = b.Inner)) := by
  apply y6c;by_cases hk : a.Inner.length = b.Inner.length
  ·rw [hk, q0t, cF, ← hk];exact qvt a.Inner b.Inner hi hk (fun x hx y => ih x hx (ha.mem hx) y) a.Inner b.Inner 0 rfl rfl
  ·rw [q2a (by omega), cT];have : a.Inner ≠ b.Inner := fun e => hk (by rw [e])
   simp [this]
 rw [qvz _ _ hn, h1];cases a; cases b;simp only [Trust.mk.injEq, bS];rename_i t n i t' n' i';by_cases h1 : t = t' <;> by_cases h2 : n = n' <;> by_cases h3 : i = i' <;> simp [eqB, h1, h2, h3]
theorem qqy (a : Trust) (ha : Small a) (b : Trust) : z3r a b = some (decide (a = b)) := by
 obtain ⟨r, h1, h2⟩ := y2g a ha b;rw [h1];congr 1
 rw [Bool.eq_iff_iff, h2]; simp
def msgB (m : Message) : Bool := inR m.Node && (decide (1 ≤ m.Seq) && (valid m.Trust && (plainC m.Votes && plainC m.Accepts)))
structure SmallM (m : Message) : Prop where
 tr : Small m.Trust
 votes : m.Votes.length < 1000000
 accs : m.Accepts.length < 1000000
theorem q38 {l : List Claim} (h : plainC l = true) : l.length ≤ 128 := by rw [← qsc h]; exact q3p l
theorem q1v {m : Message} : msgB m = true ↔ inR m.Node = true ∧ 1 ≤ m.Seq ∧ valid m.Trust = true ∧ plainC m.Votes = true ∧ plainC m.Accepts = true := by simp [msgB]
theorem q0x {m : Message} (h : msgB m = true) : SmallM m := by
 obtain ⟨_, _, h1, h2, h3⟩ := q1v.1 h;have := q38 h2;have := q38 h3;exact ⟨q25 h1, by omega, by omega⟩
theorem qrn (k : Int) : z53 k = some (inR k) := by
 apply y5n;by_cases h : 0 ≤ k
 ·simp [leB, ltB, inR, h]
 ·simp [leB, ltB, inR, h]
theorem qdl {m : Message} (h : SmallM m) : z2u m = some (msgB m) := by
 apply y4j;rw [qrn, qcc _ h.tr, q8d _ (by have := h.votes; omega), q8d _ (by have := h.accs; omega)];simp only [bS, q93, msgB, leB];cases inR m.Node <;> cases decide (1 ≤ m.Seq) <;> cases valid m.Trust <;> cases plainC m.Votes <;> rfl
theorem qhf {m : Message} (h : SmallM m) : z50 m = some (msgB m) := by
 apply y3n;rw [qk5 _ h.tr, q98 _ (by have := h.votes; omega), q98 _ (by have := h.accs; omega)];simp only [bS, q93, msgB, leB, ltB, inR];cases decide (0 ≤ m.Node) <;> cases decide (m.Node < 10) <;> cases decide (1 ≤ m.Seq) <;> cases valid m.Trust <;> cases plainC m.Votes <;> rfl
theorem qjl : ∀ t : Trust, Fits t → z3g t = some t := by
 apply Trust.ind;intro t ih ht;have hsz : size t < 1073741824 := ht;rw [q45] at hsz;have l1 : ∀ (suf : List Trust) (i : Nat) (acc : List Trust) (a8 : Int) (a10 : List Int) (a12 : List Trust) (a14 : Int) (a16 : List Int) (a18 : List Trust) (a20 : Int) (a22 : List Int), t.Inner.drop i = suf → acc.length ≤ i →
   z2s t.Inner ((t.Inner.length : Nat) : Int) (i : Int) a8 a10 a12 a14 a16 a18 a20 a22 acc = some ⟨a20, a22, acc ++ suf⟩ := by
  intro suf;induction suf with
  | nil =>
   intro i acc a8 a10 a12 a14 a16 a18 a20 a22 h ha;apply qzj;simp only [q0h h, cF, List.append_nil]
  | cons y suf ihs =>
   intro i acc a8 a10 a12 a14 a16 a18 a20 a22 h ha;have hlt := q0e h;have hy : y ∈ t.Inner := List.mem_of_mem_drop (by rw [h]; exact List.mem_cons_self);apply qzj;simp only [q06 h, cT, q04 h, ih y hy (ht.mem hy), bS, q00 (show i < 4611686018427387904 by omega), Trust.etaM];rw [q0j (by simp [q0b]; omega), ihs (i + 1) (acc ++ [y]) _ _ _ _ _ _ _ _ (q02 h) (by simp; omega)];simp
 apply y3g;rw [q0j (by simp [q0b]; omega), show (0 : Int) = ((0 : Nat) : Int) from rfl, l1 t.Inner 0 [] _ _ _ _ _ _ _ _ rfl (Nat.le_refl _)];simp []
def seeM (ms : List Member) (m : Message) : List Member := ms.set m.Node.toNat ⟨true, m.Trust⟩
def viewC (v : Int) (t : Trust) (l : List Message) : Config := ⟨(l.foldl seeM (List.replicate 10 ⟨false, ⟨0, [], []⟩⟩)).set v.toNat ⟨true, t⟩⟩
theorem q7e {k : Int} (h : inR k = true) : 0 ≤ k ∧ k.toNat < 10 := by simp [inR] at h; omega
theorem qra {v : Int} {t : Trust} (hv : inR v = true) (ht : valid t = true) (l : List Message) (hl : l.length < 1152921504606846976) (hm : ∀ m ∈ l, msgB m = true ∧ m.Node ≠ v) : ∀ (suf : List Message) (i : Nat) (ms : List Member) (a17 : List Member), l.drop i = suf → ms.length = 10 →
  z29 v l ((l.length : Nat) : Int) (i : Int) t.Threshold t.Nodes t.Inner a17 ms = some ⟨(suf.foldl seeM ms).set v.toNat ⟨true, t⟩⟩
 | [], i, ms, a17, h, hms => by
  obtain ⟨h0, h10⟩ := q7e hv;apply y1b;rw [q0h h, cF, qrn, bS, hv, cT, Trust.etaM, qcc _ (q25 ht), bS, q93, ht, cT, qjl _ (q3s ht).1, bS, Trust.etaM,
   q0r (y := ms[v.toNat]'(by omega)) h0 (by simp), q3n (y := ms[v.toNat]'(by omega)) (by simp)]
  rfl
 | m :: suf, i, ms, a17, h, hms => by
  have hlt := q0e h;obtain ⟨g1, g2⟩ := hm m (List.mem_of_mem_drop (i := i) (by rw [h]; simp));obtain ⟨k1, _, k3, _⟩ := q1v.1 g1;obtain ⟨h0, h10⟩ := q7e k1;apply y1b;rw [q06 h, cT, q04 h, q2a g2, cT, qdl (q0x g1), bS, g1, cT, qjl _ (q3s k3).1, bS, Trust.etaM,
   q0r (y := ms[m.Node.toNat]'(by omega)) h0 (by simp), q3n (y := ms[m.Node.toNat]'(by omega)) (by simp), q00 (by omega), qra hv ht l hl hm suf (i + 1) _ a17 (q02 h) (by simp [hms])]
  rfl
theorem qyt {v : Int} {t : Trust} (hv : inR v = true) (ht : valid t = true) (l : List Message) (hl : l.length < 1152921504606846976) (hm : ∀ m ∈ l, msgB m = true ∧ m.Node ≠ v) : z54 v t l = some (viewC v t l) := by
 apply y4u;exact qra hv ht l hl hm l 0 _ _ rfl rfl
theorem qqi {v : Int} {t : Trust} (hv : inR v = true) (ht : valid t = true) (l : List Message) (hl : l.length < 1152921504606846976) (hm : ∀ m ∈ l, msgB m = true ∧ m.Node ≠ v) : ∀ (suf : List Message) (i : Nat) (ms : List Member) (a17 : List Member), l.drop i = suf → ms.length = 10 →
  z44 v l ((l.length : Nat) : Int) (i : Int) t.Threshold t.Nodes t.Inner a17 ms = some ⟨(suf.foldl seeM ms).set v.toNat ⟨true, t⟩⟩
 | [], i, ms, a17, h, hms => by
  obtain ⟨h0, h10⟩ := q7e hv;apply qzo;rw [q0h h, cF, q0g h0, cT, q05 (by omega), cT, q0r (y := ms[v.toNat]'(by omega)) h0 (by simp), q3n (y := ms[v.toNat]'(by omega)) (by simp), Trust.etaM, qk5 _ (q25 ht), bS, q93, ht, cT,
   q0r (y := ⟨false, ⟨0, [], []⟩⟩) h0 (by rw [List.getElem?_set_self (by omega)]), q3n (y := ⟨false, ⟨0, [], []⟩⟩) (by rw [List.getElem?_set_self (by omega)]), List.set_set]
  rfl
 | m :: suf, i, ms, a17, h, hms => by
  have hlt := q0e h;obtain ⟨g1, g2⟩ := hm m (List.mem_of_mem_drop (i := i) (by rw [h]; simp));obtain ⟨k1, _, k3, _⟩ := q1v.1 g1;obtain ⟨h0, h10⟩ := q7e k1;apply qzo;rw [q06 h, cT, q04 h, qhf (q0x g1), bS, g1, cT, Trust.etaM,
   q0r (y := ms[m.Node.toNat]'(by omega)) h0 (by simp), q3n (y := ms[m.Node.toNat]'(by omega)) (by simp), q00 (by omega), qqi hv ht l hl hm suf (i + 1) _ a17 (q02 h) (by simp [hms])]
  rfl
theorem qqc {v : Int} {t : Trust} (hv : inR v = true) (ht : valid t = true) (l : List Message) (hl : l.length < 1152921504606846976) (hm : ∀ m ∈ l, msgB m = true ∧ m.Node ≠ v) : z5k v t l = some (viewC v t l) := by
 apply y5s;exact qqi hv ht l hl hm l 0 _ _ rfl rfl
def who (p : Message → Bool) (l : List Message) : Nat := l.foldl (fun s m => if p m then s ||| bit m.Node else s) 0
def whoF (p : Message → Bool) (s : Nat) (l : List Message) : Nat := l.foldl (fun s m => if p m then s ||| bit m.Node else s) s
def votes (l : List Message) (x : Claim) : Nat := who (fun m => decide (x ∈ m.Votes)) l
def q0u (l : List Message) (x : Claim) : Nat := who (fun m => decide (x ∈ m.Accepts)) l
theorem q8s (p : Message → Bool) (s : Nat) (m : Message) (l : List Message) : whoF p s (m :: l) = whoF p (if p m then s ||| bit m.Node else s) l := rfl
theorem qou (p : Message → Bool) : ∀ (l : List Message) (s : Nat), s < 1024 → (∀ m ∈ l, inR m.Node = true) → whoF p s l < 1024
 | [], s, h, _ => h
 | m :: l, s, h, hm => by
  rw [q8s];refine qou p l _ ?_ fun m hm' => hm m (by simp [hm'])
  split
  ·exact or_lt h (qc0 (hm m (by simp)))
  ·exact h
theorem shlOr {s : Nat} {k : Int} (hs : s < 1024) (h : inR k = true) : orI .i64 (s : Int) (shlI .i64 1 k) = ((s ||| bit k : Nat) : Int) := by
 have := qc0 h;rw [qkc h, q67 (by omega) (by omega)]
section
variable (l : List Message) (hl : l.length < 1152921504606846976) (hm : ∀ m ∈ l, msgB m = true) (x : Claim)
include hl hm
theorem qgg : ∀ (suf : List Message) (i s : Nat), l.drop i = suf → s < 1024 → z15 (s : Int) l ((l.length : Nat) : Int) (i : Int) x.Topic x.Value = some ((whoF (fun m => decide (x ∈ m.Votes)) s suf : Nat) : Int)
 | [], i, s, h, hs => by
  apply y1d;rw [q0h h]; rfl
 | m :: suf, i, s, h, hs => by
  have hlt := q0e h;have g1 := hm m (List.mem_of_mem_drop (i := i) (by rw [h]; simp));obtain ⟨k1, _⟩ := q1v.1 g1;have hf : z4v m = some m.Votes := y75 _ _ rfl;have hsm := (q0x g1).votes;apply y1d;rw [q06 h, cT, q04 h, qdl (q0x g1), bS, g1, cT, hf, bS, show Claim.mk x.Topic x.Value = x from rfl, qhk _ (by omega), bS, q00 (by omega), q8s, q1f (q7e k1).1, shlOr hs k1];by_cases hx : x ∈ m.Votes
  ·simp only [hx, decide_true, cT, if_true];exact qgg suf (i + 1) _ (q02 h) (or_lt hs (qc0 k1))
  ·simp only [hx, decide_false, cF, fT, if_false];exact qgg suf (i + 1) _ (q02 h) hs
theorem qwh : z5i l x = some ((votes l x : Nat) : Int) := by
 apply y5b;have h : z1v l x = some ((votes l x : Nat) : Int) := y4s _ _ _ (qgg l hl hm x l 0 0 rfl (by decide));rw [h]; rfl
theorem qk3 : ∀ (suf : List Message) (i s : Nat), l.drop i = suf → s < 1024 → z0v (s : Int) l ((l.length : Nat) : Int) (i : Int) x.Topic x.Value = some ((whoF (fun m => decide (x ∈ m.Accepts)) s suf : Nat) : Int)
 | [], i, s, h, hs => by
  apply qzt;rw [q0h h]; rfl
 | m :: suf, i, s, h, hs => by
  have hlt := q0e h;have g1 := hm m (List.mem_of_mem_drop (i := i) (by rw [h]; simp));obtain ⟨k1, _⟩ := q1v.1 g1;have hf : z3w m = some m.Accepts := y82 _ _ rfl;have hsm := (q0x g1).accs;apply qzt;rw [q06 h, cT, q04 h, qdl (q0x g1), bS, g1, cT, hf, bS, show Claim.mk x.Topic x.Value = x from rfl, qhk _ (by omega), bS, q00 (by omega), q8s, q1f (q7e k1).1, shlOr hs k1];by_cases hx : x ∈ m.Accepts
  ·simp only [hx, decide_true, cT, if_true];exact qk3 suf (i + 1) _ (q02 h) (or_lt hs (qc0 k1))
  ·simp only [hx, decide_false, cF, fT, if_false];exact qk3 suf (i + 1) _ (q02 h) hs
theorem qrf : z3j l x = some ((q0u l x : Nat) : Int) := by
 apply y73;have h : z1r l x = some ((q0u l x : Nat) : Int) := y53 _ _ _ (qk3 l hl hm x l 0 0 rfl (by decide));rw [h]; rfl
theorem qfx : ∀ (suf : List Message) (i s : Nat), l.drop i = suf → s < 1024 → z36 (s : Int) l ((l.length : Nat) : Int) (i : Int) x.Topic x.Value = some ((whoF (fun m => decide (x ∈ m.Votes)) s suf : Nat) : Int)
 | [], i, s, h, hs => by
  apply y08;rw [q0h h]; rfl
 | m :: suf, i, s, h, hs => by
  have hlt := q0e h;have g1 := hm m (List.mem_of_mem_drop (i := i) (by rw [h]; simp));obtain ⟨k1, _⟩ := q1v.1 g1;have hsm := (q0x g1).votes;apply y08;rw [q06 h, cT, q04 h, qhf (q0x g1), bS, g1, cT, show Claim.mk x.Topic x.Value = x from rfl, q8i _ (by omega), bS, q00 (by omega), q8s, q1f (q7e k1).1, shlOr hs k1];by_cases hx : x ∈ m.Votes
  ·simp only [hx, decide_true, cT, if_true];exact qfx suf (i + 1) _ (q02 h) (or_lt hs (qc0 k1))
  ·simp only [hx, decide_false, cF, fT, if_false];exact qfx suf (i + 1) _ (q02 h) hs
theorem qwg : z6g l x = some ((votes l x : Nat) : Int) := y6v _ _ _ (qfx l hl hm x l 0 0 rfl (by decide))
theorem ql5 : ∀ (suf : List Message) (i s : Nat), l.drop i = suf → s < 1024 → z2a (s : Int) l ((l.length : Nat) : Int) (i : Int) x.Topic x.Value = some ((whoF (fun m => decide (x ∈ m.Accepts)) s suf : Nat) : Int)
 | [], i, s, h, hs => by
  apply qzk;rw [q0h h]; rfl
 | m :: suf, i, s, h, hs => by
  have hlt := q0e h;have g1 := hm m (List.mem_of_mem_drop (i := i) (by rw [h]; simp));obtain ⟨k1, _⟩ := q1v.1 g1;have hsm := (q0x g1).accs;apply qzk;rw [q06 h, cT, q04 h, qhf (q0x g1), bS, g1, cT, show Claim.mk x.Topic x.Value = x from rfl, q8i _ (by omega), bS, q00 (by omega), q8s, q1f (q7e k1).1, shlOr hs k1];by_cases hx : x ∈ m.Accepts
  ·simp only [hx, decide_true, cT, if_true];exact ql5 suf (i + 1) _ (q02 h) (or_lt hs (qc0 k1))
  ·simp only [hx, decide_false, cF, fT, if_false];exact ql5 suf (i + 1) _ (q02 h) hs
theorem qry : z57 l x = some ((q0u l x : Nat) : Int) := y3w _ _ _ (ql5 l hl hm x l 0 0 rfl (by decide))
end
theorem qqj {l : List Message} (hm : ∀ m ∈ l, msgB m = true) (x : Claim) : votes l x < 1024 := qou _ l 0 (by decide) fun m h => (q1v.1 (hm m h)).1
theorem q7v {l : List Message} (hm : ∀ m ∈ l, msgB m = true) (x : Claim) : q0u l x < 1024 := qou _ l 0 (by decide) fun m h => (q1v.1 (hm m h)).1
def accB (c : Config) (v : Nat) (vs ac : Nat) : Bool := blk c v ac || (q5x c (vs ||| ac)).testBit v
def confB (c : Config) (v : Nat) (ac : Nat) : Bool := (q5x c ac).testBit v
section
variable {c : Config} (hc : q4j c) {vs ac : Nat} (hv : vs < 1024) (ha : ac < 1024) {v : Nat} (hn : v < 10)
include hc ha hn
theorem qxz : z3m c (v : Int) (ac : Int) = some (confB c v ac) := by
 apply y5x;rw [qdr ha hc, bS, q24 (q7j c ha), qd3 hn]; rfl
theorem qyh : z58 c (v : Int) (ac : Int) = some (confB c v ac) := by
 apply y7k;rw [qg9 ha hc, bS, q23 (q7j c ha), qd3 hn]; rfl
include hv
theorem qxt : z40 c (v : Int) (vs : Int) (ac : Int) = some (accB c v vs ac) := by
 apply y41;rw [q2o hv, q2o ha, qta hc ha, q67 (by omega) (by omega), qdr (or_lt hv ha) hc];simp only [bS, q24 (q7j c (or_lt hv ha)), qd3 hn, accB];cases blk c v ac <;> rfl
theorem qy8 : z5g c (v : Int) (vs : Int) (ac : Int) = some (accB c v vs ac) := by
 apply y7d;rw [q26 hv, q26 ha, qp6 hc ha, q67 (by omega) (by omega), qg9 (or_lt hv ha) hc];simp only [bS, q23 (q7j c (or_lt hv ha)), qd3 hn, accB];cases blk c v ac <;> rfl
end
theorem qcg {t : Member} : ∀ (l : List Message) (ms : List Member), t ∈ l.foldl seeM ms → t ∈ ms ∨ ∃ m ∈ l, t = ⟨true, m.Trust⟩
 | [], ms, h => .inl h
 | m :: l, ms, h => by
  rcases qcg l _ h with h | ⟨m', h1, h2⟩
  ·rcases List.mem_or_eq_of_mem_set h with h | h
   ·exact .inl h
   ·exact .inr ⟨m, by simp, h⟩
  ·exact .inr ⟨m', by simp [h1], h2⟩
theorem qcp : ∀ (l : List Message) (ms : List Member), (l.foldl seeM ms).length = ms.length
 | [], _ => rfl
 | m :: l, ms => by rw [List.foldl_cons, qcp l]; simp [seeM]
theorem qph {v : Int} {t : Trust} (ht : valid t = true) {l : List Message} (hm : ∀ m ∈ l, msgB m = true) : q4j (viewC v t l) := by
 refine ⟨by simp [viewC, qcp], fun m h => ?_⟩;rcases List.mem_or_eq_of_mem_set h with h | h
 ·rcases qcg l _ h with h | ⟨m', h1, h2⟩
  ·rw [List.eq_of_mem_replicate h]; simp [Small, size, sizes]
  ·rw [h2]; exact (q0x (hm m' h1)).tr
 ·rw [h]; exact q25 ht
def say (v : Voter) : Message := ⟨v.Node, v.Seq, v.Trust, v.Votes, v.Accepts⟩
def q2g (n : Int) : Option Int → List Message → Bool
 | _, [] => true
 | none, m :: r => msgB m && (!decide (m.Node = n) && q2g n (some m.Node) r)
 | some q, m :: r => msgB m && (!decide (m.Node = n) && (decide (q < m.Node) && q2g n (some m.Node) r))
structure SmallV (v : Voter) : Prop where
 tr : Small v.Trust
 votes : v.Votes.length < 1000000
 accs : v.Accepts.length < 1000000
 confs : v.Confirms.length < 1000000
 heard : v.Heard.length < 1000000
 msgs : ∀ m ∈ v.Heard, SmallM m
def q2w (v : Voter) : Bool := inR v.Node && (decide (1 ≤ v.Seq) && (decide (v.Seq ≤ 1000000) && (valid v.Trust && (plainC v.Votes && (plainC v.Accepts && (plainC v.Confirms && (consC v.Votes && (consC v.Accepts && (v.Confirms.all (fun x => decide (x ∈ v.Accepts)) && q2g v.Node none v.Heard)))))))))
theorem q2q {n : Int} : ∀ {l : List Message} {q : Option Int}, q2g n q l = true ↔ (∀ m ∈ l, msgB m = true ∧ m.Node ≠ n) ∧ (∀ k, q = some k → ∀ m ∈ l, k < m.Node) ∧ l.Pairwise (fun a b => a.Node < b.Node)
 | [], q => by cases q <;> simp [q2g]
 | m :: r, q => by
  have ih := q2q (n := n) (l := r) (q := some m.Node);have h1 : q2g n q (m :: r) = true ↔ msgB m = true ∧ m.Node ≠ n ∧ (∀ k, q = some k → k < m.Node) ∧ q2g n (some m.Node) r = true := by
   cases q <;> simp [q2g]
  rw [h1, ih, List.pairwise_cons];constructor
  ·rintro ⟨g1, g2, g3, g4, g5, g6⟩;refine ⟨fun x hx => ?_, fun k hk x hx => ?_, g5 _ rfl, g6⟩
   ·rcases List.mem_cons.1 hx with e | hx
    ·subst e; exact ⟨g1, g2⟩
    ·exact g4 x hx
   ·rcases List.mem_cons.1 hx with e | hx
    ·subst e; exact g3 k hk
    ·exact Int.lt_trans (g3 k hk) (g5 _ rfl x hx)
  ·rintro ⟨g1, g2, g3, g4⟩;exact ⟨(g1 m (by simp)).1, (g1 m (by simp)).2, fun k hk => g2 k hk m (by simp), fun x hx => g1 x (by simp [hx]), fun k hk x hx => by cases hk; exact g3 x hx, g4⟩
theorem qny {n : Int} {l : List Message} (h : q2g n none l = true) : l.length ≤ 10 := by
 obtain ⟨h1, _, h3⟩ := q2q.1 h;have := qw3 (m := 10) (l := l.map (·.Node)) (by decide) (fun k hk => by
  obtain ⟨m, hm, rfl⟩ := List.mem_map.1 hk;have := (q1v.1 (h1 m hm).1).1;simpa [inR] using this) (List.pairwise_map.2 h3)
 simp at this; omega
theorem qvs (l : List Claim) (v : Voter) (hl : l.length < 1152921504606846976) (ha : v.Accepts.length < 1000000) : ∀ (suf : List Claim) (i : Nat), l.drop i = suf → ∃ r : Int, z0r l ((l.length : Nat) : Int) (i : Int) v.Node v.Seq v.Trust.Threshold v.Trust.Nodes v.Trust.Inner v.Votes v.Accepts v.Confirms v.Heard = some (r, v.Node, v.Seq, v.Trust.Threshold, v.Trust.Nodes, v.Trust.Inner, v.Votes, v.Accepts, v.Confirms, v.Heard) ∧ leB 0 r = !(suf.all fun x => decide (x ∈ v.Accepts))
 | [], i, h => by
  refine ⟨-1, qw2 _ _ _ _ _ _ _ _ _ _ _ _ _ ?_, by simp [leB]⟩;rw [q0h h]; rfl
 | y :: suf, i, h => by
  have hlt := q0e h;obtain ⟨r, h1, h2⟩ := qvs l v hl ha suf (i + 1) (q02 h);have hf : z5t y v.Node v.Seq v.Trust.Threshold v.Trust.Nodes v.Trust.Inner v.Votes v.Accepts v.Confirms v.Heard = some (!decide (y ∈ v.Accepts), v.Node, v.Seq, v.Trust.Threshold, v.Trust.Nodes, v.Trust.Inner, v.Votes, v.Accepts, v.Confirms, v.Heard) := by
   apply y45;rw [qhk _ (by omega)]; rfl
  by_cases hy : y ∈ v.Accepts
  ·refine ⟨r, qw2 _ _ _ _ _ _ _ _ _ _ _ _ _ ?_, by rw [h2]; simp [hy]⟩;rw [q06 h, cT, q04 h, hf, bS, q00 (by omega)];simp only [hy, decide_true, nT, cF];exact h1
  ·refine ⟨i, qw2 _ _ _ _ _ _ _ _ _ _ _ _ _ ?_, by simp [hy, leB]⟩;rw [q06 h, cT, q04 h, hf, bS];simp only [hy, decide_false, Bool.not_false, cT]
theorem y1i (v : Voter) (hl : v.Heard.length < 1000000) (hm : ∀ m ∈ v.Heard, SmallM m) : ∀ (suf : List Message) (i : Nat) (z : Message), v.Heard[i]? = some z → v.Heard.drop (i + 1) = suf →
  z23 v.Heard ((v.Heard.length : Nat) : Int) ((i + 1 : Nat) : Int) v.Node v.Seq v.Trust.Threshold v.Trust.Nodes v.Trust.Inner v.Votes v.Accepts v.Confirms v.Heard = some (q2g v.Node (some z.Node) suf)
 | [], i, z, hz, h => by
  apply qqs;rw [q0h h]; rfl
 | y :: suf, i, z, hz, h => by
  have hlt := q0e h;apply qqs;rw [q06 h, cT, q04 h, qdl (hm y (List.mem_of_mem_drop (i := i + 1) (by rw [h]; simp))), bS, q05 (by omega), cT, q2d (by omega) (by omega), q0r (y := z) (by omega) (by rw [show (((i + 1 : Nat) : Int) - 1).toNat = i by omega]; exact hz), q00 (by omega),
   y1i v hl hm suf (i + 1) y (by have := congrArg (·[0]?) h; simpa using this) (q02 h)]
  rw [q2g, show leB y.Node z.Node = !decide (z.Node < y.Node) by by_cases h2 : z.Node < y.Node <;> simp [leB, h2] <;> omega];simp only [eqB];cases msgB y <;> cases decide (y.Node = v.Node) <;> cases decide (z.Node < y.Node) <;> rfl
theorem y5r (v : Voter) (hl : v.Heard.length < 1000000) (hm : ∀ m ∈ v.Heard, SmallM m) : z23 v.Heard ((v.Heard.length : Nat) : Int) 0 v.Node v.Seq v.Trust.Threshold v.Trust.Nodes v.Trust.Inner v.Votes v.Accepts v.Confirms v.Heard = some (q2g v.Node none v.Heard) := by
 cases hh : v.Heard with
 | nil =>
  apply qqs;simp [ltB, q2g]
 | cons y r =>
  have h1 := y1i v hl hm r 0 y (by rw [hh]; rfl) (by rw [hh]; rfl);rw [hh] at h1 hm;apply qqs;rw [q05 (by rw [List.length_cons]; omega), cT, q0r (y := y) (by omega) rfl, qdl (hm y (by simp)), bS, q01 (by omega), cF, show addI .i64 0 1 = ((0 + 1 : Nat) : Int) from rfl, h1, q2g];by_cases h1 : y.Node = v.Node
  all_goals cases msgB y <;> simp [h1, eqB]
theorem q9k {v : Voter} (h : SmallV v) : z2w v = some (q2w v) := by
 obtain ⟨h1, h2, h3, h4, h5, h6⟩ := h;apply y3o;obtain ⟨r, g1, g2⟩ := qvs v.Confirms v (by omega) h3 v.Confirms 0 rfl;have g3 : z1j v.Confirms v.Node v.Seq v.Trust.Threshold v.Trust.Nodes v.Trust.Inner v.Votes v.Accepts v.Confirms v.Heard = _ := y44 _ _ _ _ _ _ _ _ _ _ _ g1;have g4 : z1i v.Confirms v.Node v.Seq v.Trust.Threshold v.Trust.Nodes v.Trust.Inner v.Votes v.Accepts v.Confirms v.Heard = some (!(v.Confirms.all fun x => decide (x ∈ v.Accepts)), v.Node, v.Seq, v.Trust.Threshold, v.Trust.Nodes, v.Trust.Inner, v.Votes, v.Accepts, v.Confirms, v.Heard) := by
  apply y3f;rw [g3, bS, g2]
 rw [qcc _ h1, q8d _ (by omega), q8d _ (by omega), q8d _ (by omega), g4];simp only [bS, y5r v h5 h6, qnq];unfold q2w inR ltB leB;by_cases e1 : v.Node < 0
 ·have : ¬ 0 ≤ v.Node := by omega
  simp [e1, this]
 have e1' : 0 ≤ v.Node := by omega
 by_cases e2 : 10 ≤ v.Node
 ·have : ¬ v.Node < 10 := by omega
  simp [e1, e2, this]
 have e2' : v.Node < 10 := by omega
 by_cases e3 : v.Seq < 1
 ·have : ¬ 1 ≤ v.Seq := by omega
  simp [e1, e2, e3, this]
 have e3' : 1 ≤ v.Seq := by omega
 by_cases e4 : 1000000 < v.Seq
 ·have : ¬ v.Seq ≤ 1000000 := by omega
  simp [e1, e2, e3, e4, this]
 have e4' : v.Seq ≤ 1000000 := by omega
 simp only [e1, e1', e2, e2', e3, e3', e4, e4', decide_false, decide_true, cF, tA', Bool.and_true];cases valid v.Trust with
 | false => simp
 | true =>
  cases hp1 : plainC v.Votes with
  | false => simp
  | true =>
   cases hp2 : plainC v.Accepts with
   | false => simp
   | true =>
    cases plainC v.Confirms with
    | false => simp
    | true =>
     rw [qk9 _ (by omega) (q0q.1 hp1).1, qk9 _ (by omega) (q0q.1 hp2).1];simp only [bS];cases consC v.Votes <;> cases consC v.Accepts <;> cases v.Confirms.all (fun x => decide (x ∈ v.Accepts)) <;> rfl
theorem qzn (v : Voter) (hl : v.Heard.length < 1000000) (hm : ∀ m ∈ v.Heard, SmallM m) : ∀ (suf : List Message) (i : Nat) (z : Message), v.Heard[i]? = some z → v.Heard.drop (i + 1) = suf →
  z2e v.Heard ((v.Heard.length : Nat) : Int) ((i + 1 : Nat) : Int) v.Node v.Seq v.Trust.Threshold v.Trust.Nodes v.Trust.Inner v.Votes v.Accepts v.Confirms v.Heard = some (q2g v.Node (some z.Node) suf)
 | [], i, z, hz, h => by
  apply qrj;rw [q0h h]; rfl
 | y :: suf, i, z, hz, h => by
  have hlt := q0e h;apply qrj;rw [q06 h, cT, q04 h, qhf (hm y (List.mem_of_mem_drop (i := i + 1) (by rw [h]; simp))), bS, q05 (by omega), cT, q2d (by omega) (by omega), q0r (y := z) (by omega) (by rw [show (((i + 1 : Nat) : Int) - 1).toNat = i by omega]; exact hz), q00 (by omega),
   qzn v hl hm suf (i + 1) y (by have := congrArg (·[0]?) h; simpa using this) (q02 h)]
  rw [q2g, show leB y.Node z.Node = !decide (z.Node < y.Node) by by_cases h2 : z.Node < y.Node <;> simp [leB, h2] <;> omega];simp only [eqB];cases msgB y <;> cases decide (y.Node = v.Node) <;> cases decide (z.Node < y.Node) <;> rfl
theorem y42 (v : Voter) (hl : v.Heard.length < 1000000) (hm : ∀ m ∈ v.Heard, SmallM m) : z2e v.Heard ((v.Heard.length : Nat) : Int) 0 v.Node v.Seq v.Trust.Threshold v.Trust.Nodes v.Trust.Inner v.Votes v.Accepts v.Confirms v.Heard = some (q2g v.Node none v.Heard) := by
 cases hh : v.Heard with
 | nil =>
  apply qrj;simp [ltB, q2g]
 | cons y r =>
  have h1 := qzn v hl hm r 0 y (by rw [hh]; rfl) (by rw [hh]; rfl);rw [hh] at h1 hm;apply qrj;rw [q05 (by rw [List.length_cons]; omega), cT, q0r (y := y) (by omega) rfl, qhf (hm y (by simp)), bS, q01 (by omega), cF, show addI .i64 0 1 = ((0 + 1 : Nat) : Int) from rfl, h1, q2g];by_cases h1 : y.Node = v.Node
  all_goals cases msgB y <;> simp [h1, eqB]
theorem y0f (v : Voter) (hl : v.Heard.length < 1000000) (hm : ∀ m ∈ v.Heard, SmallM m) (ha : v.Accepts.length < 1000000) (l : List Claim) (hll : l.length < 1152921504606846976) : ∀ (suf : List Claim) (i : Nat), l.drop i = suf →
  z3l l ((l.length : Nat) : Int) (i : Int) v.Node v.Seq v.Trust.Threshold v.Trust.Nodes v.Trust.Inner v.Votes v.Accepts v.Confirms v.Heard = some ((suf.all fun x => decide (x ∈ v.Accepts)) && q2g v.Node none v.Heard)
 | [], i, h => by
  apply y1j;rw [q0h h, cF, y42 v hl hm]; simp
 | y :: suf, i, h => by
  have hlt := q0e h;apply y1j;rw [q06 h, cT, q04 h, q8i _ (by omega), bS, q00 (by omega), y0f v hl hm ha l hll suf (i + 1) (q02 h)];by_cases hy : y ∈ v.Accepts <;> simp [hy]
theorem qt2 {v : Voter} (h : SmallV v) : z4z v = some (q2w v) := by
 obtain ⟨h1, h2, h3, h4, h5, h6⟩ := h;apply y4p;have g1 : z3l v.Confirms ((v.Confirms.length : Nat) : Int) 0 v.Node v.Seq v.Trust.Threshold v.Trust.Nodes v.Trust.Inner v.Votes v.Accepts v.Confirms v.Heard = _ := y0f v h5 h6 h3 v.Confirms (by omega) v.Confirms 0 rfl;rw [qk5 _ h1, q98 _ (by omega), q98 _ (by omega), q98 _ (by omega), qkv _ (by omega), qkv _ (by omega), g1];simp only [bS, qnq];unfold q2w inR ltB leB;by_cases e1 : v.Node < 0
 ·have : ¬ 0 ≤ v.Node := by omega
  simp [e1, this]
 have e1' : 0 ≤ v.Node := by omega
 by_cases e2 : 10 ≤ v.Node
 ·have : ¬ v.Node < 10 := by omega
  simp [e1, e2, this]
 have e2' : v.Node < 10 := by omega
 by_cases e3 : v.Seq < 1
 ·have : ¬ 1 ≤ v.Seq := by omega
  simp [e1, e2, e3, this]
 have e3' : 1 ≤ v.Seq := by omega
 by_cases e4 : 1000000 < v.Seq
 ·have : ¬ v.Seq ≤ 1000000 := by omega
  simp [e1, e2, e3, e4, this]
 have e4' : v.Seq ≤ 1000000 := by omega
 simp only [e1, e1', e2, e2', e3, e3', e4, e4', decide_false, decide_true, cF, tA', Bool.and_true];cases valid v.Trust <;> cases plainC v.Votes <;> cases plainC v.Accepts <;> cases plainC v.Confirms <;> cases consC v.Votes <;> cases consC v.Accepts <;> rfl
structure Ready (v : Voter) : Prop where
 node : inR v.Node = true
 seq : 1 ≤ v.Seq ∧ v.Seq ≤ 1000000
 tr : valid v.Trust = true
 votes : plainC v.Votes = true
 accs : plainC v.Accepts = true
 confs : plainC v.Confirms = true
 cons : consC v.Accepts = true
 sub : ∀ x ∈ v.Confirms, x ∈ v.Accepts
 heard : q2g v.Node none v.Heard = true
theorem q10 {v : Voter} : q2w v = true ↔ Ready v ∧ consC v.Votes = true := by
 simp only [q2w, aT, dT', List.all_eq_true];constructor
 ·rintro ⟨h1, h2, h3, h4, h5, h6, h7, h8, h9, h10, h11⟩;exact ⟨⟨h1, ⟨h2, h3⟩, h4, h5, h6, h7, h9, h10, h11⟩, h8⟩
 ·rintro ⟨⟨h1, ⟨h2, h3⟩, h4, h5, h6, h7, h9, h10, h11⟩, h8⟩;exact ⟨h1, h2, h3, h4, h5, h6, h7, h8, h9, h10, h11⟩
def allM (v : Voter) : List Message := v.Heard ++ [say v]
theorem Ready.msg {v : Voter} (h : Ready v) : ∀ m ∈ v.Heard, msgB m = true ∧ m.Node ≠ v.Node := (q2q.1 h.heard).1
theorem Ready.say {v : Voter} (h : Ready v) : msgB (say v) = true := q1v.2 ⟨h.node, h.seq.1, h.tr, h.votes, h.accs⟩
theorem Ready.all {v : Voter} (h : Ready v) : ∀ m ∈ allM v, msgB m = true := fun m hm => by
 rcases List.mem_append.1 hm with hm | hm
 ·exact (h.msg m hm).1
 ·simp at hm; subst hm; exact h.say
theorem Ready.len {v : Voter} (h : Ready v) : (allM v).length ≤ 11 := by have := qny h.heard; simp [allM]; omega
theorem Ready.hlen {v : Voter} (h : Ready v) : v.Heard.length ≤ 10 := qny h.heard
theorem Ready.alen {v : Voter} (h : Ready v) : v.Accepts.length ≤ 128 := q38 h.accs
theorem Ready.vlen {v : Voter} (h : Ready v) : v.Votes.length ≤ 128 := q38 h.votes
theorem Ready.clen {v : Voter} (h : Ready v) : v.Confirms.length ≤ 128 := q38 h.confs
theorem Ready.small {v : Voter} (h : Ready v) : SmallV v := ⟨q25 h.tr, by have := h.vlen; omega, by have := h.alen; omega, by have := h.clen; omega, by have := h.hlen; omega, fun m hm => q0x (h.msg m hm).1⟩
theorem qq4 (v : Voter) : z5y v = some (say v) := y6p _ _ (by rw [Trust.etaM]; rfl)
theorem qux (v : Voter) : z6k v = some (say v) := y6n _ _ (by rw [Trust.etaM]; rfl)
theorem qi5 (m : Message) : Message.mk m.Node m.Seq (Trust.mk m.Trust.Threshold m.Trust.Nodes m.Trust.Inner) m.Votes m.Accepts = m := by rw [Trust.etaM]
theorem q19 (v : Voter) : Voter.mk v.Node v.Seq (Trust.mk v.Trust.Threshold v.Trust.Nodes v.Trust.Inner) v.Votes v.Accepts v.Confirms v.Heard = v := by rw [Trust.etaM]
theorem qqv {v : Voter} (hl : v.Heard.length < 1000000) : z6j v = some (allM v) := by
 apply y5o;rw [q0j (by simp [q0b]; omega), qux, bS, qi5, q0j (by simp [q0b]; omega)]; rfl
theorem qho (l : List Message) (hl : l.length < 1000000) : z1p l = some ((), l) := y76 _ _ (by rw [q0j (by simp [q0b]; omega)]; rfl)
theorem q74 (l : List Claim) (hl : l.length < 1000000) : z18 l = some ((), l) := y1p _ _ (by rw [q0j (by simp [q0b]; omega)]; rfl)
def q52 (l : List Message) : List Claim := l.flatMap fun m => m.Votes ++ m.Accepts
def known (v : Voter) : List Claim := q0l (q52 (allM v))
theorem qsu {m : Message} (h : msgB m = true) : ∀ x ∈ m.Votes ++ m.Accepts, vcl x = true := fun x hx => by
 obtain ⟨_, _, _, h1, h2⟩ := q1v.1 h;rcases List.mem_append.1 hx with hx | hx
 ·exact (q0q.1 h1).1 x hx
 ·exact (q0q.1 h2).1 x hx
theorem qn5 (l : List Message) (hl : l.length ≤ 11) (hm : ∀ m ∈ l, msgB m = true) : ∀ (suf : List Message) (i : Nat) (acc : List Claim), i ≤ l.length → l.drop i = suf → acc.length ≤ 256 * i → (∀ x ∈ acc, vcl x = true) → z3u acc l ((l.length : Nat) : Int) (i : Int) = some (q0l (acc ++ q52 suf))
 | [], i, acc, hi, h, ha, hv => by
  apply y0l;rw [q0h h, cF, qjq acc (by omega) hv];simp [q52]
 | m :: suf, i, acc, hi, h, ha, hv => by
  have hlt := q0e h;have g := hm m (List.mem_of_mem_drop (i := i) (by rw [h]; simp));obtain ⟨_, _, _, g1, g2⟩ := q1v.1 g;have := q38 g1;have := q38 g2;apply y0l;rw [q06 h, cT, q04 h, q0j (by simp [q0b]; omega), q0j (by simp [q0b]; omega), q00 (by omega), qn5 l hl hm suf (i + 1) _ hlt (q02 h) (by simp; omega) (fun x hx => by
   rw [List.append_assoc] at hx;rcases List.mem_append.1 hx with hx | hx
   ·exact hv x hx
   ·exact qsu g x hx)]
  simp [q52]
theorem qx2 {v : Voter} (h : Ready v) : z5s (allM v) = some (known v) := by
 apply y6o;have := qn5 (allM v) h.len h.all (allM v) 0 [] (by omega) rfl (by simp) (by simp);exact this
theorem qbm (a b : List Claim) : q0l (q0l a ++ q0l b) = q0l (a ++ b) := by
 refine qdf (q15 _) (q15 _) fun x => ?_
 simp only [q1m, List.mem_append];constructor
 ·rintro ⟨h1, h2 | h2⟩
  ·exact ⟨h1, .inl h2.2⟩
  ·exact ⟨h1, .inr h2.2⟩
 ·rintro ⟨h1, h2 | h2⟩
  ·exact ⟨h1, .inl ⟨h1, h2⟩⟩
  ·exact ⟨h1, .inr ⟨h1, h2⟩⟩
theorem qm9 (v : Voter) (l : List Message) (hl : l.length < 1000000) (hm : ∀ m ∈ l, msgB m = true) : ∀ (suf : List Message) (i : Nat) (acc : List Claim), l.drop i = suf →
  z49 (q0l acc) l ((l.length : Nat) : Int) (i : Int) v.Node v.Seq v.Trust.Threshold v.Trust.Nodes v.Trust.Inner v.Votes v.Accepts v.Confirms v.Heard = some (q0l (acc ++ q52 suf))
 | [], i, acc, h => by
  apply y0q;rw [q0h h, cF]; simp [q52]
 | m :: suf, i, acc, h => by
  have hlt := q0e h;have g := q0x (hm m (List.mem_of_mem_drop (i := i) (by rw [h]; simp)));have h1 := g.votes;have h2 := g.accs;have h3 := q3p acc;have h4 := q3p (m.Votes ++ m.Accepts);apply y0q;rw [q06 h, cT, q04 h, q9g _ _ (by omega) (by omega), bS, q9g _ _ (by omega) (by omega), bS, qbm, q00 (by omega), qm9 v l hl hm suf (i + 1) _ (q02 h)];simp [q52]
theorem quq {v : Voter} (h : Ready v) : z6d v = some (known v) := by
 have hlen := h.len;apply y69;rw [qqv (by have := h.hlen; omega), bS];have hne : allM v ≠ [] := by simp [allM]
 obtain ⟨m, suf, hms⟩ := List.exists_cons_of_ne_nil hne;have hd : (allM v).drop 0 = m :: suf := by rw [List.drop_zero, hms]
 have g := q0x (h.all m (by rw [hms]; simp));have h1 := g.votes;have h2 := g.accs;have h4 := q3p (m.Votes ++ m.Accepts);apply y7o;have l0 : ltB 0 (((allM v).length : Nat) : Int) = true := q06 (i := 0) hd;have n0 : ∀ k : Message → Option (List Claim), nth (allM v) 0 k = k m := fun k => q04 (i := 0) hd k
 rw [l0, cT, n0, q9g _ _ (by omega) (by omega), bS, q9g _ _ (by simp) (by omega), bS, show ([] : List Claim) ++ q0l (m.Votes ++ m.Accepts) = q0l [] ++ q0l (m.Votes ++ m.Accepts) from rfl, qbm, show addI .i64 0 1 = ((1 : Nat) : Int) from rfl, qm9 v (allM v) (by omega) h.all suf 1 _ (by rw [hms]; rfl)];rw [known, hms];simp [q52]
def viewV (v : Voter) : Config := viewC v.Node v.Trust v.Heard
def canB (v : Voter) (x : Claim) : Bool := !decide (x ∈ v.Accepts) && (decide (∀ y ∈ v.Accepts, ¬ Contra x y) && accB (viewV v) v.Node.toNat (votes (allM v) x) (q0u (allM v) x))
def nextV (v : Voter) : Option Claim := (known v).find? (canB v)
theorem Ready.view {v : Voter} (h : Ready v) : q4j (viewV v) := qph h.tr fun m hm => (h.msg m hm).1
theorem Ready.node' {v : Voter} (h : Ready v) : v.Node.toNat < 10 ∧ ((v.Node.toNat : Nat) : Int) = v.Node := by have := q7e h.node; omega
theorem qbp {v : Voter} {x : Claim} (h : x ∈ known v) : vcl x = true := (q1m.1 h).1
theorem qdc {A : List Claim} (h : consC A = true) (x : Claim) : consC (A ++ [x]) = decide (∀ y ∈ A, ¬ Contra x y) := by
 rw [Bool.eq_iff_iff, q4l, dT'];rw [q4l] at h;constructor
 ·intro g y hy;exact g x (by simp) y (by simp [hy])
 ·intro g a ha b hb;rcases List.mem_append.1 ha with ha' | ha' <;> rcases List.mem_append.1 hb with hb' | hb'
  ·exact h a ha' b hb'
  ·simp at hb'; subst hb'; exact fun hc => g a ha' hc.symm
  ·simp at ha'; subst ha'; exact g b hb'
  ·simp at ha' hb'; subst ha'; subst hb'; exact fun hc => hc.2 rfl
theorem qn7 {v : Voter} (h : Ready v) (l : List Claim) (hl : l.length ≤ 128) (hv : ∀ x ∈ l, vcl x = true) : ∀ (suf : List Claim) (i : Nat), l.drop i = suf →
  z35 (allM v) l ((l.length : Nat) : Int) (i : Int) v.Node v.Seq v.Trust.Threshold v.Trust.Nodes v.Trust.Inner v.Votes v.Accepts v.Confirms v.Heard (viewV v).Members 0 0 = some (match suf.find? (canB v) with | some x => (x, true) | none => (⟨0, 0⟩, false))
 | [], i, g => by
  apply y05;rw [q0h g]; rfl
 | y :: suf, i, g => by
  have hlt := q0e g;have hlen := h.len;have halen := h.alen;have hy := hv y (List.mem_of_mem_drop (i := i) (by rw [g]; simp));have ih := qn7 h l hl hv suf (i + 1) (q02 g);obtain ⟨n1, n2⟩ := h.node';have hvc : ∀ x ∈ v.Accepts ++ [y], vcl x = true := fun x hx => by
   rcases List.mem_append.1 hx with hx | hx
   ·exact (q0q.1 h.accs).1 x hx
   ·simp at hx; subst hx; exact hy
  have hacc : z40 ⟨(viewV v).Members⟩ v.Node ((votes (allM v) y : Nat) : Int) ((q0u (allM v) y : Nat) : Int) = some (accB (viewV v) v.Node.toNat (votes (allM v) y) (q0u (allM v) y)) := by
   have := qxt h.view (qqj h.all y) (q7v h.all y) n1;rw [n2] at this; exact this
  apply y05;rw [q06 g, cT, q04 g, qhk _ (by omega), bS, q74 _ (by omega), bS, q0j (by simp [q0b]; omega), qk9 _ (by simp; omega) hvc, bS, qdc h.cons, qwh _ (by omega) h.all, bS, qrf _ (by omega) h.all, bS, hacc, bS, q00 (by omega), ih, List.find?_cons];simp only [canB];by_cases h1 : y ∈ v.Accepts
  ·simp only [h1, decide_true, cT, nT, Bool.false_and]
  ·by_cases h2 : ∀ z ∈ v.Accepts, ¬ Contra y z
   ·simp only [h1, decide_false, cF, Bool.not_false, tA', decide_eq_true h2, nT];cases accB (viewV v) v.Node.toNat (votes (allM v) y) (q0u (allM v) y) <;> rfl
   ·simp only [h1, decide_false, cF, Bool.not_false, tA', decide_eq_false h2, Bool.not_false, cT, Bool.false_and]
theorem qnn {v : Voter} (h : Ready v) : z5o v (viewV v) = some (match nextV v with | some x => (x, true) | none => (⟨0, 0⟩, false)) := by
 apply y4e;have hh := h.hlen;rw [qho _ (by omega), bS, qq4, bS, qi5, q0j (by simp [q0b]; omega)];have : z5s (v.Heard ++ [say v]) = _ := qx2 h;rw [this, bS];exact qn7 h (known v) (q3p _) (fun x hx => qbp hx) (known v) 0 rfl
theorem qve {v : Voter} (h : Ready v) (x : Claim) : ∀ (suf : List Claim) (i : Nat), v.Accepts.drop i = suf → z4j v.Accepts ((v.Accepts.length : Nat) : Int) (i : Int) v.Node v.Seq v.Trust.Threshold v.Trust.Nodes v.Trust.Inner v.Votes v.Accepts v.Confirms v.Heard x.Topic x.Value =
  some (decide (∀ y ∈ suf, ¬ Contra x y) && accB (viewV v) v.Node.toNat (votes (allM v) x) (q0u (allM v) x))
 | [], i, g => by
  have hlen := h.len;have hh := h.hlen;obtain ⟨n1, n2⟩ := h.node';have hacc : z5g (viewV v) v.Node ((votes (allM v) x : Nat) : Int) ((q0u (allM v) x : Nat) : Int) = some (accB (viewV v) v.Node.toNat (votes (allM v) x) (q0u (allM v) x)) := by
   have := qy8 h.view (qqj h.all x) (q7v h.all x) n1;rw [n2] at this; exact this
  have hv : z5k v.Node v.Trust v.Heard = some (viewV v) := qqc h.node h.tr v.Heard (by omega) h.msg;apply y1w;rw [q0h g, cF, q19, qqv (by omega), bS, Trust.etaM, hv, bS, show Claim.mk x.Topic x.Value = x from rfl, qwg _ (by omega) h.all, bS, qry _ (by omega) h.all, bS, hacc];simp
 | y :: suf, i, g => by
  have hlt := q0e g;have := h.alen;apply y1w;rw [q06 g, cT, q04 g, show Claim.mk x.Topic x.Value = x from rfl, qj5, bS, q00 (by omega), qve h x suf (i + 1) (q02 g)];by_cases hc : Contra x y <;> simp [hc]
theorem y2d {v : Voter} (h : Ready v) (x : Claim) : z6r v x = some (canB v x) := by
 have := h.alen;apply y8f;rw [q8i _ (by omega), bS, canB];have h1 : z4j v.Accepts ((v.Accepts.length : Nat) : Int) 0 v.Node v.Seq v.Trust.Threshold v.Trust.Nodes v.Trust.Inner v.Votes v.Accepts v.Confirms v.Heard x.Topic x.Value = _ := qve h x v.Accepts 0 rfl;rw [h1];cases decide (x ∈ v.Accepts) <;> rfl
def withA (v : Voter) (x : Claim) : Voter := { v with Accepts := q0l (v.Accepts ++ [x]) }
def q2h : Nat → Voter → Voter
 | 0, v => v
 | n + 1, v => match nextV v with
  | none => v
  | some x => q2h n (withA v x)
theorem qh7 {v : Voter} {x : Claim} (h : nextV v = some x) : x ∈ known v ∧ x ∉ v.Accepts ∧ (∀ y ∈ v.Accepts, ¬ Contra x y) ∧ accB (viewV v) v.Node.toNat (votes (allM v) x) (q0u (allM v) x) = true := by
 have h1 := List.mem_of_find?_eq_some h;have h2 := List.find?_some h;simp only [canB, aT, Bool.not_eq_true', dT', decide_eq_false_iff_not] at h2;exact ⟨h1, h2⟩
theorem qx5 {v : Voter} (h : nextV v = none) : ∀ x ∈ known v, canB v x = false := fun x hx => by
 have := List.find?_eq_none.1 h x hx;simpa using this
theorem qhh {A : List Claim} {x y : Claim} (hA : ∀ z ∈ A, vcl z = true) (hx : vcl x = true) : y ∈ q0l (A ++ [x]) ↔ y ∈ A ∨ y = x := by
 rw [q1m, List.mem_append, List.mem_singleton];constructor
 ·exact fun h => h.2
 ·rintro (h | h)
  ·exact ⟨hA y h, .inl h⟩
  ·exact ⟨by rw [h]; exact hx, .inr h⟩
theorem Ready.avc {v : Voter} (h : Ready v) : ∀ z ∈ v.Accepts, vcl z = true := (q0q.1 h.accs).1
theorem Ready.withA {v : Voter} (h : Ready v) {x : Claim} (hx : vcl x = true) (hc : ∀ y ∈ v.Accepts, ¬ Contra x y) : Ready (withA v x) := by
 have hm := fun y => qhh (y := y) h.avc hx
 refine ⟨h.node, h.seq, h.tr, h.votes, q15 _, h.confs, ?_, fun y hy => (hm y).2 (.inl (h.sub y hy)), h.heard⟩;have : consC (v.Accepts ++ [x]) = true := by rw [qdc h.cons, dT']; exact hc
 rw [q4l] at this ⊢;intro a ha b hb;exact this a (q1m.1 ha).2 b (q1m.1 hb).2
theorem quj {A : List Claim} {x : Claim} (hA : plainC A = true) (hx : vcl x = true) (hn : x ∉ A) : (q0l (A ++ [x])).length = A.length + 1 := by
 have hnd : ∀ {l : List Claim}, l.Pairwise ltc → l.Nodup := fun h => List.Pairwise.imp (fun {a b} (hab : ltc a b) => fun (e : a = b) => q3u a (by rw [← e] at hab; exact hab)) h
 have hp : (q0l (A ++ [x])).Perm (A ++ [x]) := (List.perm_ext_iff_of_nodup (hnd (qat _)) (by
  rw [List.nodup_append];exact ⟨hnd (q0q.1 hA).2, by simp, fun a ha b hb => by simp at hb; subst hb; exact fun e => hn (by rw [← e]; exact ha)⟩)).2 fun y => by
   rw [qhh (q0q.1 hA).1 hx]; simp
 rw [hp.length_eq]; simp
theorem q60 : ∀ (n : Nat) (v : Voter), Ready v → 128 - v.Accepts.length < n → Ready (q2h n v) ∧ nextV (q2h n v) = none
 | 0, v, h, hn => by omega
 | n + 1, v, h, hn => by
  rw [q2h];cases hx : nextV v with
  | none => exact ⟨h, hx⟩
  | some x =>
   obtain ⟨h1, h2, h3, _⟩ := qh7 hx;have hv := qbp h1;have hr := h.withA hv h3;have hl := quj h.accs hv h2;have hal : (q0l (v.Accepts ++ [x])).length ≤ 128 := hr.alen;exact q60 n (withA v x) hr (by show 128 - (q0l (v.Accepts ++ [x])).length < n; omega)
theorem q91 : ∀ (n : Nat) (v : Voter), (q2h n v).Node = v.Node ∧ (q2h n v).Seq = v.Seq ∧ (q2h n v).Trust = v.Trust ∧ (q2h n v).Votes = v.Votes ∧ (q2h n v).Confirms = v.Confirms ∧ (q2h n v).Heard = v.Heard
 | 0, v => ⟨rfl, rfl, rfl, rfl, rfl, rfl⟩
 | n + 1, v => by
  rw [q2h];cases nextV v with
  | none => exact ⟨rfl, rfl, rfl, rfl, rfl, rfl⟩
  | some x => exact q91 n (withA v x)
def confC (v : Voter) (C : List Claim) (l : List Claim) : List Claim := l.foldl (fun C x => if confB (viewV v) v.Node.toNat (q0u (allM v) x) then q0l (C ++ [x]) else C) C
def finish (v : Voter) : Voter := { v with Confirms := confC v v.Confirms v.Accepts }
def q09 (v : Voter) : Voter := finish (q2h 200 v)
theorem qgl (v : Voter) : ∀ (l C : List Claim), plainC C = true → plainC (confC v C l) = true
 | [], C, h => h
 | x :: l, C, h => by
  show plainC (confC v (if _ then _ else _) l) = true;refine qgl v l _ ?_;split
  ·exact q15 _
  ·exact h
theorem qbf (v : Voter) {y : Claim} : ∀ (l C : List Claim), (∀ x ∈ C, vcl x = true) → (∀ x ∈ l, vcl x = true) → (y ∈ confC v C l ↔ y ∈ C ∨ y ∈ l ∧ confB (viewV v) v.Node.toNat (q0u (allM v) y) = true)
 | [], C, _, _ => by simp [confC]
 | x :: l, C, hC, hl => by
  show y ∈ confC v (if _ then _ else _) l ↔ _;have hx := hl x (by simp);have hl' : ∀ z ∈ l, vcl z = true := fun z hz => hl z (by simp [hz])
  by_cases hc : confB (viewV v) v.Node.toNat (q0u (allM v) x) = true
  ·rw [if_pos hc, qbf v l _ (fun z hz => (q1m.1 hz).1) hl', qhh hC hx];constructor
   ·rintro ((h | h) | h)
    ·exact .inl h
    ·exact .inr ⟨by simp [h], by rw [h]; exact hc⟩
    ·exact .inr ⟨by simp [h.1], h.2⟩
   ·rintro (h | ⟨h, h'⟩)
    ·exact .inl (.inl h)
    ·rcases List.mem_cons.1 h with h | h
     ·exact .inl (.inr h)
     ·exact .inr ⟨h, h'⟩
  ·rw [if_neg hc, qbf v l C hC hl'];constructor
   ·rintro (h | h)
    ·exact .inl h
    ·exact .inr ⟨by simp [h.1], h.2⟩
   ·rintro (h | ⟨h, h'⟩)
    ·exact .inl h
    ·rcases List.mem_cons.1 h with h | h
     ·subst h; exact absurd h' hc
     ·exact .inr ⟨h, h'⟩
theorem Ready.finish {v : Voter} (h : Ready v) : Ready (finish v) :=
 ⟨h.node, h.seq, h.tr, h.votes, h.accs, qgl v _ _ h.confs, h.cons, fun x hx => by
  rcases (qbf v _ _ (q0q.1 h.confs).1 h.avc).1 hx with hx | hx
  ·exact h.sub x hx
  ·exact hx.1, h.heard⟩
theorem Ready.settle {v : Voter} (h : Ready v) : Ready (q09 v) := ((q60 200 v h (by omega)).1).finish
theorem qh5 : ∀ t : Trust, Fits t → z4g t = some t := by
 apply Trust.ind;intro t ih ht;have hsz : size t < 1073741824 := ht;rw [q45] at hsz;have l1 : ∀ (suf : List Trust) (i : Nat) (acc : List Trust) (a8 : Int) (a10 : List Int) (a12 : List Trust) (a14 : Int) (a16 : List Int) (a18 : List Trust) (a20 : Int) (a22 : List Int), t.Inner.drop i = suf → acc.length ≤ i →
   z3s t.Inner ((t.Inner.length : Nat) : Int) (i : Int) a8 a10 a12 a14 a16 a18 a20 a22 acc = some ⟨a20, a22, acc ++ suf⟩ := by
  intro suf;induction suf with
  | nil =>
   intro i acc a8 a10 a12 a14 a16 a18 a20 a22 h ha;apply qzw;simp only [q0h h, cF, List.append_nil]
  | cons y suf ihs =>
   intro i acc a8 a10 a12 a14 a16 a18 a20 a22 h ha;have hlt := q0e h;have hy : y ∈ t.Inner := List.mem_of_mem_drop (by rw [h]; exact List.mem_cons_self);apply qzw;simp only [q06 h, cT, q04 h, ih y hy (ht.mem hy), bS, q00 (show i < 4611686018427387904 by omega), Trust.etaM];rw [q0j (by simp [q0b]; omega), ihs (i + 1) (acc ++ [y]) _ _ _ _ _ _ _ _ (q02 h) (by simp; omega)];simp
 apply y6e;have h1 : z37 t.Nodes = some ((), t.Nodes) := y5l _ _ (by rw [q0j (by simp [q0b]; omega)]; rfl);rw [h1, bS, show (0 : Int) = ((0 : Nat) : Int) from rfl, l1 t.Inner 0 [] _ _ _ _ _ _ _ _ rfl (Nat.le_refl _)];simp []
theorem qh0 {m : Message} (ht : Fits m.Trust) (h1 : m.Votes.length < 1000000) (h2 : m.Accepts.length < 1000000) : z34 m = some m := by
 apply y8e;rw [qh5 _ ht, bS, q74 _ h1, bS, q74 _ h2, bS, Trust.etaM]
theorem qm0 (l : List Message) (hl : l.length < 1000000) (hm : ∀ m ∈ l, z34 m = some m) (n s : Int) (t : Int) (ns : List Int) (is : List Trust) (va aa ca : List Claim) (d1 d2 d3 : Int) (d4 : List Int) (d5 : List Trust) (d6 d7 d8 : List Claim) (d9 : List Message) : ∀ (suf : List Message) (i : Nat) (acc : List Message), l.drop i = suf → acc.length ≤ i →
  z3t l ((l.length : Nat) : Int) (i : Int) n s t ns is va aa ca acc d1 d2 d3 d4 d5 d6 d7 d8 d9 = some ⟨n, s, ⟨t, ns, is⟩, va, aa, ca, acc ++ suf⟩
 | [], i, acc, h, ha => by
  apply qzz;rw [q0h h, cF, List.append_nil]
 | m :: suf, i, acc, h, ha => by
  have hlt := q0e h;apply qzz;rw [q06 h, cT, q04 h, hm m (List.mem_of_mem_drop (i := i) (by rw [h]; simp)), bS, qi5, q0j (by simp [q0b]; omega), q00 (by omega), qm0 l hl hm n s t ns is va aa ca d1 d2 d3 d4 d5 d6 d7 d8 d9 suf (i + 1) _ (q02 h) (by simp; omega)];simp
structure Fresh (v : Voter) : Prop where
 tr : Fits v.Trust
 votes : v.Votes.length < 1000000
 accs : v.Accepts.length < 1000000
 confs : v.Confirms.length < 1000000
 heard : v.Heard.length < 1000000
 msgs : ∀ m ∈ v.Heard, z34 m = some m
theorem qct {v : Voter} (h : Fresh v) : z2n v = some v := by
 apply y4t;rw [qh5 _ h.tr, bS, q74 _ h.votes, bS, q74 _ h.accs, bS, q74 _ h.confs, bS];have := qm0 v.Heard h.heard h.msgs v.Node v.Seq v.Trust.Threshold v.Trust.Nodes v.Trust.Inner v.Votes v.Accepts v.Confirms 0 0 0 [] [] [] [] [] [] v.Heard 0 [] rfl (Nat.le_refl _);rw [show (0 : Int) = ((0 : Nat) : Int) from rfl] at this ⊢;rw [this, Trust.etaM]; rfl
theorem qys {m : Message} (h : msgB m = true) : z34 m = some m :=
 qh0 (q3s (q1v.1 h).2.2.1).1 (q0x h).votes (q0x h).accs
theorem Ready.fresh {v : Voter} (h : Ready v) (s : Int) : Fresh { v with Seq := s } :=
 ⟨(q3s h.tr).1, by have := h.vlen; show v.Votes.length < _; omega, by have := h.alen; show v.Accepts.length < _; omega, by have := h.clen; show v.Confirms.length < _; omega, by have := h.hlen; show v.Heard.length < _; omega, fun m hm => qys (h.msg m hm).1⟩
theorem qo0 {v : Voter} (h : Ready v) (l : List Claim) (hl : l.length ≤ 128) (hv : ∀ x ∈ l, vcl x = true) (d1 d2 d3 : Int) (d4 : List Int) (d5 : List Trust) (d6 d7 d8 : List Claim) (d9 : List Message) (e1 e2 : Int) : ∀ (suf : List Claim) (i : Nat) (C : List Claim), l.drop i = suf → plainC C = true →
  z2q (allM v) l ((l.length : Nat) : Int) (i : Int) v.Node v.Seq v.Trust.Threshold v.Trust.Nodes v.Trust.Inner v.Votes v.Accepts C v.Heard d1 d2 d3 d4 d5 d6 d7 d8 d9 (viewV v).Members e1 e2 = some { v with Confirms := confC v C suf }
 | [], i, C, g, hC => by
  apply y0v;rw [q0h g, cF, Trust.etaM]; rfl
 | y :: suf, i, C, g, hC => by
  have hlt := q0e g;have hlen := h.len;have hcl := q38 hC;have hy := hv y (List.mem_of_mem_drop (i := i) (by rw [g]; simp));obtain ⟨n1, n2⟩ := h.node';have hacc : z3m ⟨(viewV v).Members⟩ v.Node ((q0u (allM v) y : Nat) : Int) = some (confB (viewV v) v.Node.toNat (q0u (allM v) y)) := by
   have := qxz h.view (q7v h.all y) n1;rw [n2] at this; exact this
  apply y0v;rw [q06 g, cT, q04 g, qrf _ (by omega) h.all, bS, hacc, bS, qoq C y (by omega) (q0q.1 hC).1 hy, bS, q00 (by omega)];show _ = some { v with Confirms := confC v (if confB (viewV v) v.Node.toNat (q0u (allM v) y) then q0l (C ++ [y]) else C) suf };cases hc : confB (viewV v) v.Node.toNat (q0u (allM v) y) with
  | true =>
   rw [cT, if_pos rfl];exact qo0 h l hl hv d1 d2 d3 d4 d5 d6 d7 d8 d9 e1 e2 suf (i + 1) _ (q02 g) (q15 _)
  | false =>
   rw [cF, if_neg (by simp)];exact qo0 h l hl hv d1 d2 d3 d4 d5 d6 d7 d8 d9 e1 e2 suf (i + 1) _ (q02 g) hC
theorem quv (d1 d2 d3 : Int) (d4 : List Int) (d5 : List Trust) (d6 d7 d8 : List Claim) (d9 : List Message) : ∀ (n : Nat) (v : Voter), Ready v → 128 - v.Accepts.length < n → ∀ r : Claim × Bool, r = (match nextV v with | some x => (x, true) | none => (⟨0, 0⟩, false)) →
  z3z r.2 v.Node v.Seq v.Trust.Threshold v.Trust.Nodes v.Trust.Inner v.Votes v.Accepts v.Confirms v.Heard d1 d2 d3 d4 d5 d6 d7 d8 d9 (viewV v).Members r.1.Topic r.1.Value = some (finish (q2h n v))
 | 0, v, h, hn, _, _ => by omega
 | n + 1, v, h, hn, r, hr => by
  rw [q2h];apply y7p;cases hx : nextV v with
  | none =>
   rw [hx] at hr; subst hr;have hh := h.hlen;simp only [cF];rw [qho _ (by omega), bS, q19, qq4, bS, qi5, q0j (by simp [q0b]; omega)];have := qo0 h v.Accepts h.alen h.avc d1 d2 d3 d4 d5 d6 d7 d8 d9 0 0 v.Accepts 0 v.Confirms rfl h.confs;exact this
  | some x =>
   rw [hx] at hr; subst hr;obtain ⟨h1, h2, h3, _⟩ := qh7 hx;have hv := qbp h1;have hr := h.withA hv h3;have hl := quj h.accs hv h2;have hal := h.alen;have hal' : (q0l (v.Accepts ++ [x])).length ≤ 128 := hr.alen;simp only [cT];rw [show Claim.mk x.Topic x.Value = x from rfl, qoq _ _ (by omega) h.avc hv, bS];have hw : Voter.mk v.Node v.Seq (Trust.mk v.Trust.Threshold v.Trust.Nodes v.Trust.Inner) v.Votes (q0l (v.Accepts ++ [x])) v.Confirms v.Heard = withA v x := by rw [Trust.etaM]; rfl
   rw [hw];have hn' : z5o (withA v x) ⟨(viewV v).Members⟩ = _ := qnn hr;rw [hn', bS];exact quv d1 d2 d3 d4 d5 d6 d7 d8 d9 n (withA v x) hr (by show 128 - (q0l (v.Accepts ++ [x])).length < n; omega) _ rfl
theorem qo6 {v : Voter} (h : Ready v) : z5r v = some (q09 v) := by
 have hh := h.hlen;apply y79;have hv : z54 v.Node v.Trust v.Heard = some (viewV v) := qyt h.node h.tr v.Heard (by omega) h.msg;rw [hv, bS, qnn h, bS];exact quv _ _ _ _ _ _ _ _ _ 200 v h (by omega) _ rfl
noncomputable def turnV (b v : Voter) : Voter := if b.Trust = (q09 v).Trust ∧ b.Votes = (q09 v).Votes ∧ b.Accepts = (q09 v).Accepts then q09 v else { q09 v with Seq := (q09 v).Seq + 1 }
theorem qd2 {b v : Voter} (hb : Ready b) (h : Ready v) : z33 b v = some (turnV b v) := by
 have hs := h.settle;have h1 := hb.vlen;have h2 := hb.alen;have hq := hs.seq;have f0 : z2n (q09 v) = some (q09 v) := qct (hs.fresh (q09 v).Seq);have f1 : z2n { q09 v with Seq := (q09 v).Seq + 1 } = some { q09 v with Seq := (q09 v).Seq + 1 } := qct (hs.fresh _);have hw : Voter.mk (q09 v).Node (addI .i64 (q09 v).Seq 1) (Trust.mk (q09 v).Trust.Threshold (q09 v).Trust.Nodes (q09 v).Trust.Inner) (q09 v).Votes (q09 v).Accepts (q09 v).Confirms (q09 v).Heard = { q09 v with Seq := (q09 v).Seq + 1 } := by rw [Trust.etaM, q2f (by omega) (by omega)]
 apply y7t;rw [qo6 h, bS, qqz _ (q25 hb.tr), bS, qmm _ _ (by omega), bS, qmm _ _ (by omega), bS, hw, f1, bS, f0, bS, q19, q19, turnV];by_cases e1 : b.Trust = (q09 v).Trust <;> by_cases e2 : b.Votes = (q09 v).Votes <;> by_cases e3 : b.Accepts = (q09 v).Accepts <;> simp [e1, e2, e3]
section
variable {b : Voter} (hb : SmallV b) (hbs : 0 ≤ b.Seq ∧ b.Seq < 4611686018427387904) (d1 d2 d3 : Int) (d4 : List Int) (d5 : List Trust) (d6 d7 d8 : List Claim) (d9 : List Message)
include hb hbs
end
def q5m : Voter := ⟨0, 0, ⟨0, [], []⟩, [], [], [], []⟩
noncomputable def voteV (v : Voter) (x : Claim) : Voter × Int :=
 if q2w v = false ∨ vcl x = false then (q5m, 1)
 else if ∃ y ∈ v.Votes ++ v.Accepts, Contra x y then (q5m, 14)
 else if x ∈ v.Votes then (v, 0) else (turnV v { v with Votes := q0l (v.Votes ++ [x]) }, 0)
theorem qr6 (l : List Claim) (hl : l.length < 1152921504606846976) (x : Claim) : ∀ (suf : List Claim) (i : Nat), l.drop i = suf → ∃ r : Int, z0u l ((l.length : Nat) : Int) (i : Int) x.Topic x.Value = some (r, x.Topic, x.Value) ∧ leB 0 r = decide (∃ y ∈ suf, Contra x y)
 | [], i, h => by
  refine ⟨-1, qvx _ _ _ _ _ _ ?_, by simp [leB]⟩;rw [q0h h]; rfl
 | y :: suf, i, h => by
  have hlt := q0e h;obtain ⟨r, h1, h2⟩ := qr6 l hl x suf (i + 1) (q02 h);have hf : z61 y x.Topic x.Value = some (decide (Contra x y), x.Topic, x.Value) := y6g _ _ _ _ (by rw [show Claim.mk x.Topic x.Value = x from rfl, qsz]; rfl);by_cases hc : Contra x y
  ·refine ⟨i, qvx _ _ _ _ _ _ ?_, by simp [leB, hc]⟩;rw [q06 h, cT, q04 h, hf]; simp [hc]
  ·refine ⟨r, qvx _ _ _ _ _ _ ?_, by rw [h2]; simp [hc]⟩;rw [q06 h, cT, q04 h, hf, bS, q00 (by omega)];simp only [hc, decide_false, cF];exact h1
theorem qwf (l : List Claim) (hl : l.length < 1152921504606846976) (x : Claim) : z1c l x.Topic x.Value = some (decide (∃ y ∈ l, Contra x y), x.Topic, x.Value) := by
 obtain ⟨r, h1, h2⟩ := qr6 l hl x l 0 rfl;apply y8c;have h3 : z1k l x.Topic x.Value = _ := y5i _ _ _ _ h1;rw [h3, bS, h2]
theorem Ready.withV {v : Voter} (h : Ready v) (x : Claim) : Ready { v with Votes := q0l (v.Votes ++ [x]) } :=
 ⟨h.node, h.seq, h.tr, q15 _, h.accs, h.confs, h.cons, h.sub, h.heard⟩
theorem q8h {v : Voter} (hs : SmallV v) (x : Claim) : z4x v x = some (voteV v x) := by
 apply y5c;rw [q9k hs, bS, qbd, bS, voteV];cases hv : q2w v with
 | false => rfl
 | true =>
  cases hx : vcl x with
  | false => rfl
  | true =>
   obtain ⟨h, hc⟩ := q10.1 hv;have h1 := h.vlen;have h2 := h.alen;have hw : Voter.mk v.Node v.Seq (Trust.mk v.Trust.Threshold v.Trust.Nodes v.Trust.Inner) (q0l (v.Votes ++ [x])) v.Accepts v.Confirms v.Heard = { v with Votes := q0l (v.Votes ++ [x]) } := by rw [Trust.etaM]
   simp only [nT, cF, Bool.true_eq_false, or_self, if_false];rw [qwf _ (by omega), bS, qwf _ (by omega), bS]
   dsimp only
   rw [show Claim.mk x.Topic x.Value = x from rfl, qhk _ (by omega), bS, qct (h.fresh v.Seq), bS, qoq _ _ (by omega) (q0q.1 h.votes).1 hx, bS, hw, qd2 h (h.withV x), bS, q19, q19];by_cases e1 : ∃ y ∈ v.Votes, Contra x y
   ·have : ∃ y ∈ v.Votes ++ v.Accepts, Contra x y := by obtain ⟨y, h, h'⟩ := e1; exact ⟨y, by simp [h], h'⟩
    rw [if_pos this]; simp only [e1, decide_true, cT]; rfl
   ·by_cases e2 : ∃ y ∈ v.Accepts, Contra x y
    ·have : ∃ y ∈ v.Votes ++ v.Accepts, Contra x y := by obtain ⟨y, h, h'⟩ := e2; exact ⟨y, by simp [h], h'⟩
     rw [if_pos this]; simp only [e1, e2, decide_true, decide_false, cT, cF]; rfl
    ·have : ¬ ∃ y ∈ v.Votes ++ v.Accepts, Contra x y := by
      rintro ⟨y, h, h'⟩;rcases List.mem_append.1 h with h | h
      ·exact e1 ⟨y, h, h'⟩
      ·exact e2 ⟨y, h, h'⟩
     rw [if_neg this];by_cases e3 : x ∈ v.Votes
     ·simp only [e1, e2, e3, decide_true, decide_false, cT, cF, if_true]
     ·simp only [e1, e2, e3, decide_false, cF, if_false]
noncomputable def declV (v : Voter) (t : Trust) : Voter × Int :=
 if q2w v = false then (q5m, 1) else if verr t ≠ 0 then (q5m, verr t) else if v.Trust = t then (v, 0) else (turnV v { v with Trust := t }, 0)
theorem Ready.withT {v : Voter} (h : Ready v) {t : Trust} (ht : valid t = true) : Ready { v with Trust := t } := ⟨h.node, h.seq, ht, h.votes, h.accs, h.confs, h.cons, h.sub, h.heard⟩
theorem qfv {v : Voter} (hs : SmallV v) {t : Trust} (ht : Small t) : z55 v t = some (declV v t) := by
 apply y4c;rw [q9k hs, bS, qcc _ ht, bS, declV];cases hv : q2w v with
 | false => rfl
 | true =>
  obtain ⟨h, hc⟩ := q10.1 hv;simp only [nT, cF, Bool.true_eq_false, if_false];by_cases e : verr t = 0
  ·rw [e, q0t, cF, if_neg (by simp), qqz _ hs.tr, bS, qct (h.fresh v.Seq), bS];have hw : Voter.mk v.Node v.Seq (Trust.mk t.Threshold t.Nodes t.Inner) v.Votes v.Accepts v.Confirms v.Heard = { v with Trust := t } := by rw [Trust.etaM]
   rw [hw, qd2 h (h.withT ((q57 t).1 e)), bS, q19, q19];by_cases e2 : v.Trust = t
   ·rw [if_pos e2, decide_eq_true e2, cT]
   ·rw [if_neg e2, decide_eq_false e2, cF]
  ·rw [q2a e, cT, if_pos e]; rfl
def qng (n : Int) (t : Trust) : Voter × Int := if inR n = false then (q5m, 5) else if verr t ≠ 0 then (q5m, verr t) else (⟨n, 1, t, [], [], [], []⟩, 0)
theorem qjp (n : Int) {t : Trust} (ht : Small t) : z5q n t = some (qng n t) := by
 apply y7m;rw [qcc _ ht, bS, qng, inR, ltB, leB];by_cases e1 : n < 0
 ·have : ¬ 0 ≤ n := by omega
  simp [e1, this]; rfl
 ·have e1' : 0 ≤ n := by omega
  by_cases e2 : 10 ≤ n
  ·have : ¬ n < 10 := by omega
   simp [e1, e2, this]; rfl
  ·have e2' : n < 10 := by omega
   by_cases e : verr t = 0
   ·rw [qh5 _ (q3s ((q57 t).1 e)).1];simp [e1, e2, e1', e2', e, neB]
   ·simp [e1, e2, e1', e2', e, neB]; rfl
def hearL (m : Message) : List Message → List Message
 | [] => [m]
 | x :: r => if x.Node < m.Node then x :: hearL m r else if x.Node = m.Node then m :: r else m :: x :: r
def oldB (l : List Message) (m : Message) : Bool := l.any fun x => decide (x.Node = m.Node) && decide (m.Seq ≤ x.Seq)
noncomputable def hearV (v : Voter) (m : Message) : Voter × Int :=
 if q2w v = false ∨ msgB m = false ∨ m.Node = v.Node then (q5m, 1)
 else if oldB v.Heard m = true then (q5m, 9) else (turnV v { v with Heard := hearL m v.Heard }, 0)
theorem qli {m x : Message} : ∀ {l : List Message}, x ∈ hearL m l → x = m ∨ x ∈ l
 | [], h => by simp [hearL] at h; exact .inl h
 | y :: r, h => by
  rw [hearL] at h;split at h
  ·rcases List.mem_cons.1 h with h | h
   ·exact .inr (by simp [h])
   ·rcases qli h with h | h
    ·exact .inl h
    ·exact .inr (by simp [h])
  ·split at h
   ·rcases List.mem_cons.1 h with h | h
    ·exact .inl h
    ·exact .inr (by simp [h])
   ·rcases List.mem_cons.1 h with h | h
    ·exact .inl h
    ·exact .inr h
theorem qgv {n : Int} {m : Message} (hm : msgB m = true) (hn : m.Node ≠ n) : ∀ {l : List Message} {q : Option Int}, q2g n q l = true → (∀ k, q = some k → k < m.Node) → q2g n q (hearL m l) = true
 | [], q, _, hq => by
  cases q with
  | none => simp [hearL, q2g, hm, hn]
  | some k => simp [hearL, q2g, hm, hn, hq k rfl]
 | y :: r, q, h, hq => by
  have hi := q2q.1 h;rw [hearL];split
  ·rename_i hlt;have hr : q2g n (some y.Node) r = true := by
    rw [List.pairwise_cons] at hi;exact q2q.2 ⟨fun x hx => hi.1 x (by simp [hx]), fun k hk x hx => by cases hk; exact hi.2.2.1 x hx, hi.2.2.2⟩
   have ih := qgv hm hn hr (fun k hk => by cases hk; exact hlt);have hj := q2q.1 ih;refine q2q.2 ⟨fun x hx => ?_, fun k hk x hx => ?_, List.pairwise_cons.2 ⟨fun x hx => hj.2.1 _ rfl x hx, hj.2.2⟩⟩
   ·rcases List.mem_cons.1 hx with e | hx
    ·subst e; exact hi.1 x (by simp)
    ·exact hj.1 x hx
   ·have hy := hi.2.1 k hk y (by simp);rcases List.mem_cons.1 hx with e | hx
    ·subst e; exact hy
    ·exact Int.lt_trans hy (hj.2.1 _ rfl x hx)
  ·rename_i hge;rw [List.pairwise_cons] at hi;split
   ·rename_i heq;refine q2q.2 ⟨fun x hx => ?_, fun k hk x hx => ?_, List.pairwise_cons.2 ⟨fun x hx => by rw [← heq]; exact hi.2.2.1 x hx, hi.2.2.2⟩⟩
    ·rcases List.mem_cons.1 hx with e | hx
     ·subst e; exact ⟨hm, hn⟩
     ·exact hi.1 x (by simp [hx])
    ·rcases List.mem_cons.1 hx with e | hx
     ·subst e; exact hq k hk
     ·exact hi.2.1 k hk x (by simp [hx])
   ·rename_i hne;have hlt : m.Node < y.Node := by omega
    refine q2q.2 ⟨fun x hx => ?_, fun k hk x hx => ?_, List.pairwise_cons.2 ⟨fun x hx => ?_, List.pairwise_cons.2 hi.2.2⟩⟩
    ·rcases List.mem_cons.1 hx with e | hx
     ·subst e; exact ⟨hm, hn⟩
     ·exact hi.1 x hx
    ·rcases List.mem_cons.1 hx with e | hx
     ·subst e; exact hq k hk
     ·exact hi.2.1 k hk x hx
    ·rcases List.mem_cons.1 hx with e | hx
     ·subst e; exact hlt
     ·exact Int.lt_trans hlt (hi.2.2.1 x hx)
theorem Ready.withH {v : Voter} (h : Ready v) {m : Message} (hm : msgB m = true) (hn : m.Node ≠ v.Node) : Ready { v with Heard := hearL m v.Heard } :=
 ⟨h.node, h.seq, h.tr, h.votes, h.accs, h.confs, h.cons, h.sub, qgv hm hn h.heard (fun k hk => by cases hk)⟩
def pos (k : Int) : List Message → Nat
 | [] => 0
 | x :: r => if x.Node < k then pos k r + 1 else 0
theorem qv4 (k : Int) : ∀ l : List Message, pos k l ≤ l.length
 | [] => Nat.le_refl _
 | x :: r => by
  rw [pos]; split
  ·simp; exact qv4 k r
  ·simp
theorem qj2 {k : Int} : ∀ {l : List Message}, l.Pairwise (fun a b => a.Node < b.Node) → ∀ (i : Nat) (x : Message), l[i]? = some x → (x.Node < k ↔ i < pos k l)
 | [], _, i, x, h => by simp at h
 | y :: r, hp, i, x, h => by
  rw [List.pairwise_cons] at hp;rw [pos];cases i with
  | zero =>
   simp at h; subst h;split <;> simp_all
  | succ i =>
   have h' : r[i]? = some x := by simpa using h
   have hyx := hp.1 x (List.mem_of_getElem? h');split
   ·rw [qj2 hp.2 i x h']; omega
   ·constructor
    ·intro g; omega
    ·intro g; omega
def q6h (k : Int) (l : List Message) : Bool := match l[pos k l]? with | some x => decide (x.Node = k) | none => false
theorem qlh {m : Message} : ∀ {l : List Message}, hearL m l = if q6h m.Node l = true then l.set (pos m.Node l) m else l.take (pos m.Node l) ++ m :: l.drop (pos m.Node l)
 | [] => by simp [hearL, q6h, pos]
 | x :: r => by
  rw [hearL];by_cases h1 : x.Node < m.Node
  ·have hp : pos m.Node (x :: r) = pos m.Node r + 1 := by rw [pos, if_pos h1]
   have hf : q6h m.Node (x :: r) = q6h m.Node r := by simp [q6h, hp]
   rw [if_pos h1, qlh (l := r), hp, hf];split <;> simp
  ·have hp : pos m.Node (x :: r) = 0 := by rw [pos, if_neg h1]
   have hf : q6h m.Node (x :: r) = decide (x.Node = m.Node) := by simp [q6h, hp]
   rw [if_neg h1, hp, hf];by_cases h2 : x.Node = m.Node <;> simp [h2]
theorem qym {m : Message} {l : List Message} (hp : l.Pairwise (fun a b => a.Node < b.Node)) : oldB l m = match l[pos m.Node l]? with | some x => decide (x.Node = m.Node) && decide (m.Seq ≤ x.Seq) | none => false := by
 cases hx : l[pos m.Node l]? with
 | none =>
  rw [oldB, List.any_eq_false];intro x hx';obtain ⟨i, hi, rfl⟩ := List.mem_iff_getElem.1 hx';have h1 := (qj2 (k := m.Node) hp i l[i] (by simp [hi]));have h2 := List.getElem?_eq_none_iff.1 hx;have : l[i].Node < m.Node := h1.2 (by omega);simp; omega
 | some y =>
  show oldB l m = (decide (y.Node = m.Node) && decide (m.Seq ≤ y.Seq));rw [oldB, Bool.eq_iff_iff, List.any_eq_true];constructor
  ·rintro ⟨x, hx', h⟩;simp only [aT, dT'] at h;obtain ⟨i, hi, rfl⟩ := List.mem_iff_getElem.1 hx';have h1 := (qj2 (k := m.Node) hp i l[i] (by simp [hi]));have h3 := (qj2 (k := m.Node) hp _ y hx);have hge : pos m.Node l ≤ i := by
    have : ¬ l[i].Node < m.Node := by omega
    rw [h1] at this; omega
   have hpl := (List.getElem?_eq_some_iff.1 hx).1;have : i = pos m.Node l := by
    by_cases e : i = pos m.Node l
    ·exact e
    ·have hlt : pos m.Node l < i := by omega
     have := List.pairwise_iff_getElem.1 hp _ _ hpl hi hlt;have h4 : l[pos m.Node l] = y := (List.getElem?_eq_some_iff.1 hx).2;rw [h4] at this;have : ¬ y.Node < m.Node := by rw [h3]; omega
     omega
   subst this;have h4 : l[pos m.Node l] = y := (List.getElem?_eq_some_iff.1 hx).2;rw [h4] at h;simp [h]
  ·intro h;exact ⟨y, List.mem_of_getElem? hx, h⟩
theorem y3q : ∀ i : Fin 12, ∀ j : Fin 12, IntKind.wrap .i64 (shrI .u64 (IntKind.wrap .u64 (addI .i64 ((i.val : Nat) : Int) ((j.val : Nat) : Int))) 1) = (((i.val + j.val) / 2 : Nat) : Int) := by decide +kernel
theorem qq7 (x : Message) (k : Int) : z5f x k = some (if x.Node < k then -1 else if k < x.Node then 1 else 0) := y5e _ _ _ (by rw [qgu]; rfl)
theorem qtp {l : List Message} (hl : l.length ≤ 10) (hp : l.Pairwise (fun a b => a.Node < b.Node)) (k : Int) : ∀ (n i j : Nat), j - i ≤ n → i ≤ pos k l → pos k l ≤ j → j ≤ l.length →
  z0f l k ((l.length : Nat) : Int) (i : Int) (j : Int) = some (((pos k l : Nat) : Int), q6h k l)
 | n, i, j, hn, hi, hj, hjl => by
  apply y64;by_cases hij : i < j
  ·obtain ⟨n, rfl⟩ : ∃ m, n = m + 1 := ⟨n - 1, by omega⟩;have hmid := y3q ⟨i, by omega⟩ ⟨j, by omega⟩
   dsimp only at hmid
   have hml : (i + j) / 2 < l.length := by omega
   have hg : l[(i + j) / 2]? = some l[(i + j) / 2] := by simp [hml]
   have hpl := qj2 (k := k) hp _ _ hg;rw [q05 (by omega), cT, hmid, q0r (by omega) (by rw [tN]; exact hg), qq7, bS];by_cases h1 : l[(i + j) / 2].Node < k
   ·rw [if_pos h1, q05 (by decide), cT, q00 (by omega)];exact qtp hl hp k n ((i + j) / 2 + 1) j (by omega) (by have := hpl.1 h1; omega) hj hjl
   ·rw [if_neg h1, q01 (by split <;> decide), cF];exact qtp hl hp k n i ((i + j) / 2) (by omega) hi (by have := fun h => h1 (hpl.2 h); omega) (by omega)
  ·have hij' : i = pos k l := by omega
   subst hij';rw [q01 (by omega), cF];unfold q6h;by_cases he : pos k l < l.length
   ·have hg : l[pos k l]? = some l[pos k l] := by simp [he]
    have hpl := qj2 (k := k) hp _ _ hg;have h1 : ¬ l[pos k l].Node < k := by rw [hpl]; omega
    rw [q05 (by omega), cT, q0r (by omega) (by rw [tN]; exact hg), qq7, bS, hg, if_neg h1];by_cases h2 : k < l[pos k l].Node
    ·have : ¬ l[pos k l].Node = k := by omega
     simp [h2, this, eqB]
    ·have : l[pos k l].Node = k := by omega
     simp [this, eqB]
   ·rw [q01 (by omega), cF, List.getElem?_eq_none (by omega)]
theorem y55 {l : List Message} (hl : l.length ≤ 10) (hp : l.Pairwise (fun a b => a.Node < b.Node)) (k : Int) : z17 l k = some (((pos k l : Nat) : Int), q6h k l) := by
 apply y7n;exact qtp hl hp k l.length 0 l.length (by omega) (by omega) (qv4 k l) (Nat.le_refl _)
theorem qug (l : List Message) : (l.map q1e).all (q4e 7) = true := by
 rw [List.all_eq_true]; intro x hx; obtain ⟨y, _, rfl⟩ := List.mem_map.1 hx; rfl
theorem qtb (l : List Message) (hl : l.length < 1000000) (m : Message) (i : Nat) (hi : i ≤ l.length) : z4h (i : Int) [m] l = some (l.take i ++ m :: l.drop i, ()) := by
 refine qcy (T := tn) (m := q6y 7) sigOk (by kernel_rfl) rfl ?_;show libA (q6y 7) [.ref 0, .d (.v (.int .i64 i)), .d (.list [q1e m])] [[.own (l.map q1e) false]] = some (.d (.list ((l.take i ++ m :: l.drop i).map q1e)), [[.undef]]);unfold libA q6y;have h1 : (i : Int) ≤ ((l.map q1e).length : Int) := by simp; omega
 have h2 : (l.map q1e).length < q0b := by simp [q0b]; omega
 have h3 : q4e 7 (q1e m) = true := rfl;simp only [Int.natCast_nonneg, h1, h2, h3, qug, and_self, if_true, tN];simp only [List.map_append, List.map_cons, List.map_take, List.map_drop];rfl
theorem qfz {v : Voter} (hs : SmallV v) {m : Message} (hm : SmallM m) : z4y v m = some (hearV v m) := by
 apply y6i;rw [q9k hs, bS, qdl hm, bS, hearV];cases hv : q2w v with
 | false => rfl
 | true =>
  cases hx : msgB m with
  | false => rfl
  | true =>
   obtain ⟨h, hc⟩ := q10.1 hv;simp only [nT, cF, Bool.true_eq_false, false_or];by_cases hn : m.Node = v.Node
   ·rw [if_pos hn, hn, q3y]; rfl
   ·rw [if_neg hn, q5f hn, cF];have hp := (q2q.1 h.heard).2.2;have hh := h.hlen;rw [y55 hh hp, bS, qym hp, qho _ (by omega)];have hpl := qv4 m.Node v.Heard;have hw : ∀ H, Voter.mk v.Node v.Seq (Trust.mk v.Trust.Threshold v.Trust.Nodes v.Trust.Inner) v.Votes v.Accepts v.Confirms H = { v with Heard := H } := fun H => by rw [Trust.etaM]
    have ht := qd2 h (h.withH hx hn);rw [qlh] at ht ⊢;simp only [bS, qi5];cases hf : q6h m.Node v.Heard with
    | true =>
     rw [hf, if_pos rfl] at ht;unfold q6h at hf;cases hg : v.Heard[pos m.Node v.Heard]? with
     | none => rw [hg] at hf; cases hf
     | some y =>
      rw [hg] at hf;have hy : y.Node = m.Node := by simpa using hf
      simp only [cT, if_true];rw [q0r (by omega) (by rw [tN]; exact hg), q0r (by omega) (by rw [tN]; exact hg), q3n (by rw [tN]; exact hg), tN, hw, ht, bS, q19];by_cases hq : m.Seq ≤ y.Seq <;> simp [leB, hy, hq] <;> rfl
    | false =>
     rw [hf, if_neg (by simp)] at ht;unfold q6h at hf;have hold : (match v.Heard[pos m.Node v.Heard]? with | some x => decide (x.Node = m.Node) && decide (m.Seq ≤ x.Seq) | none => false) = false := by
      cases hg : v.Heard[pos m.Node v.Heard]? with
      | none => rfl
      | some y => rw [hg] at hf; simp only at hf; simp [hf]
     simp only [cF, hold, fT, if_false];rw [qtb _ (by omega) m _ hpl, bS, hw, ht, bS, q19]
theorem qy4 {v : Voter} (ht : Fits v.Trust) (h1 : v.Votes.length < 1000000) (h2 : v.Accepts.length < 1000000) : z6l v = some (say v) := by
 apply y6f;rw [qq4, bS, qh0 ht h1 h2, bS, qi5]
noncomputable def msgEq (a b : Message) : Bool := decide (a.Node = b.Node) && (decide (a.Seq = b.Seq) && (decide (a.Trust = b.Trust) && (decide (a.Votes = b.Votes) && decide (a.Accepts = b.Accepts))))
theorem qna {a b : Message} : msgEq a b = true ↔ a = b := by
 cases a; cases b; simp [msgEq]
theorem qu3 {a : Message} (h : SmallM a) (b : Message) : z6o a b = some (msgEq a b) := by
 apply y8i;rw [qqy _ h.tr, q4k _ _ (by have := h.votes; omega), q4k _ _ (by have := h.accs; omega)];simp only [bS, eqB, msgEq];cases decide (a.Node = b.Node) <;> cases decide (a.Seq = b.Seq) <;> cases decide (a.Trust = b.Trust) <;> cases decide (a.Votes = b.Votes) <;> rfl
noncomputable def q6o : List Message → List Message → Bool
 | [], [] => true
 | a :: l, b :: k => msgEq a b && q6o l k
 | _, _ => false
theorem qd1 : ∀ {l k : List Message}, q6o l k = true ↔ l = k
 | [], [] => by simp [q6o]
 | [], b :: k => by simp [q6o]
 | a :: l, [] => by simp [q6o]
 | a :: l, b :: k => by rw [q6o, aT, qna, qd1]; simp
theorem qsq {l k : List Message} (h : l.length ≠ k.length) : q6o l k = false := by
 cases e : q6o l k with
 | false => rfl
 | true => exact absurd (by rw [qd1.1 e]) h
noncomputable def sameV (a b : Voter) : Bool := msgEq (say a) (say b) && (decide (a.Confirms = b.Confirms) && q6o a.Heard b.Heard)
theorem qvw {a b : Voter} : sameV a b = true ↔ a = b := by
 rw [sameV, aT, aT, qna, dT', qd1];cases a; cases b;simp [say];constructor
 ·rintro ⟨⟨h1, h2, h3, h4, h5⟩, h6, h7⟩; exact ⟨h1, h2, h3, h4, h5, h6, h7⟩
 ·rintro ⟨h1, h2, h3, h4, h5, h6, h7⟩; exact ⟨⟨h1, h2, h3, h4, h5⟩, h6, h7⟩
theorem qn9 (a b : Voter) (hl : a.Heard.length < 1000000) (hk : a.Heard.length = b.Heard.length) (hm : ∀ m ∈ a.Heard, SmallM m) : ∀ (suf suk : List Message) (i : Nat), a.Heard.drop i = suf → b.Heard.drop i = suk →
  z42 ((a.Heard.length : Nat) : Int) (i : Int) a.Node a.Seq a.Trust.Threshold a.Trust.Nodes a.Trust.Inner a.Votes a.Accepts a.Confirms a.Heard b.Node b.Seq b.Trust.Threshold b.Trust.Nodes b.Trust.Inner b.Votes b.Accepts b.Confirms b.Heard = some (q6o suf suk)
 | [], suk, i, h, h' => by
  have : suk = [] := by rw [← h', List.drop_eq_nil_iff, ← hk]; exact List.drop_eq_nil_iff.1 h
  subst this;apply y1a;rw [q0h h]; rfl
 | y :: suf, [], i, h, h' => by
  have := q0e h;have := List.drop_eq_nil_iff.1 h';omega
 | y :: suf, z :: suk, i, h, h' => by
  have hlt := q0e h;apply y1a;rw [q06 h, cT, q04 h, q04 h', qu3 (hm y (List.mem_of_mem_drop (i := i) (by rw [h]; simp))), bS, q00 (by omega), qn9 a b hl hk hm suf suk (i + 1) (q02 h) (q02 h'), q6o];cases msgEq y z <;> rfl
theorem qxk {a : Voter} (h : SmallV a) (b : Voter) : z5h a b = some (sameV a b) := by
 have hl := h.heard;apply y6w;have h1 : (bif neB ((a.Heard.length : Nat) : Int) ((b.Heard.length : Nat) : Int) then some false else z42 ((a.Heard.length : Nat) : Int) 0 a.Node a.Seq a.Trust.Threshold a.Trust.Nodes a.Trust.Inner a.Votes a.Accepts a.Confirms a.Heard b.Node b.Seq b.Trust.Threshold b.Trust.Nodes b.Trust.Inner b.Votes b.Accepts b.Confirms b.Heard) = some (q6o a.Heard b.Heard) := by
  by_cases hk : a.Heard.length = b.Heard.length
  ·rw [← hk, q0t, cF];exact qn9 a b hl hk h.msgs _ _ 0 rfl rfl
  ·rw [q2a (by omega), cT, qsq hk]
 rw [qqy _ h.tr, q4k _ _ (by have := h.votes; omega), q4k _ _ (by have := h.accs; omega), q4k _ _ (by have := h.confs; omega), h1];have n1 : ∀ x y : Int, neB x y = !decide (x = y) := fun x y => by by_cases h : x = y <;> simp [neB, h]
 simp only [bS, n1];show _ = some ((decide (a.Node = b.Node) && (decide (a.Seq = b.Seq) && (decide (a.Trust = b.Trust) && (decide (a.Votes = b.Votes) && decide (a.Accepts = b.Accepts))))) && (decide (a.Confirms = b.Confirms) && q6o a.Heard b.Heard));cases decide (a.Node = b.Node) <;> cases decide (a.Seq = b.Seq) <;> cases decide (a.Trust = b.Trust) <;> cases decide (a.Votes = b.Votes) <;> cases decide (a.Accepts = b.Accepts) <;> cases decide (a.Confirms = b.Confirms) <;> rfl
theorem q2e (v : Voter) : (q09 v).Node = v.Node ∧ (q09 v).Seq = v.Seq ∧ (q09 v).Trust = v.Trust ∧ (q09 v).Votes = v.Votes ∧ (q09 v).Heard = v.Heard := by
 obtain ⟨h1, h2, h3, h4, _, h6⟩ := q91 200 v;exact ⟨h1, h2, h3, h4, h6⟩
theorem qha : ∀ (n : Nat) (v : Voter), Ready v → ∀ x ∈ v.Accepts, x ∈ (q2h n v).Accepts
 | 0, v, h, x, hx => hx
 | n + 1, v, h, x, hx => by
  rw [q2h];cases hy : nextV v with
  | none => exact hx
  | some y =>
   obtain ⟨h1, h2, h3, _⟩ := qh7 hy;have hv := qbp h1;exact qha n (withA v y) (h.withA hv h3) x ((qhh h.avc hv).2 (.inl hx))
theorem qel {v : Voter} (h : Ready v) {y : Claim} : y ∈ (q09 v).Confirms ↔ y ∈ v.Confirms ∨ y ∈ (q09 v).Accepts ∧ confB (viewV (q09 v)) (q09 v).Node.toNat (q0u (allM (q09 v)) y) = true := by
 have hs := (q60 200 v h (by omega)).1;obtain ⟨_, _, _, _, h5, _⟩ := q91 200 v;show y ∈ confC (q2h 200 v) (q2h 200 v).Confirms (q2h 200 v).Accepts ↔ _;rw [qbf _ _ _ (q0q.1 hs.confs).1 hs.avc, h5];exact Iff.rfl
theorem qp5 {v : Voter} (h : Ready v) : ∀ x ∈ known (q09 v), canB (q09 v) x = false := fun x hx => qx5 (q60 200 v h (by omega)).2 x hx
theorem Ready.withS {v : Voter} (h : Ready v) {s : Int} (h1 : 1 ≤ s) (h2 : s ≤ 1000000) : Ready { v with Seq := s } := ⟨h.node, ⟨h1, h2⟩, h.tr, h.votes, h.accs, h.confs, h.cons, h.sub, h.heard⟩
theorem q3t (b v : Voter) : ∃ s : Int, (s = v.Seq ∨ s = v.Seq + 1) ∧ turnV b v = { q09 v with Seq := s } ∧ (s = v.Seq ↔ b.Trust = v.Trust ∧ b.Votes = v.Votes ∧ b.Accepts = (q09 v).Accepts) := by
 obtain ⟨h1, h2, h3, h4, h5⟩ := q2e v;rw [turnV, h3, h4, h2];split
 ·rename_i h;exact ⟨v.Seq, .inl rfl, by rw [← h2], fun _ => h, fun _ => rfl⟩
 ·rename_i h;exact ⟨v.Seq + 1, .inr rfl, rfl, fun e => by omega, fun e => absurd e h⟩
structure Step (v w : Voter) : Prop where
 node : w.Node = v.Node
 seq : w.Seq = v.Seq ∨ w.Seq = v.Seq + 1
 votes : ∀ x ∈ v.Votes, x ∈ w.Votes
 accs : ∀ x ∈ v.Accepts, x ∈ w.Accepts
 confs : ∀ x ∈ v.Confirms, x ∈ w.Confirms
 ready : w.Seq ≤ 1000000 → q2w w = true
 small : SmallV w
theorem Ready.smallS {v : Voter} (h : Ready v) (s : Int) : SmallV { v with Seq := s } := ⟨h.small.tr, h.small.votes, h.small.accs, h.small.confs, h.small.heard, h.small.msgs⟩
theorem qh6 {b v u : Voter} (hu : Ready u) (hc : consC u.Votes = true) (hn : u.Node = v.Node) (hs : u.Seq = v.Seq) (hv : ∀ x ∈ v.Votes, x ∈ u.Votes) (ha : u.Accepts = v.Accepts) (hcf : u.Confirms = v.Confirms) : Step v (turnV b u) := by
 obtain ⟨s, h1, h2, _⟩ := q3t b u;obtain ⟨g1, g2, g3, g4, g5⟩ := q2e u;have hr := hu.settle;rw [h2];refine ⟨g1.trans hn, by rw [← hs]; exact h1, fun x hx => by show x ∈ (q09 u).Votes; rw [g4]; exact hv x hx, fun x hx => qha 200 u hu x (by rw [ha]; exact hx), fun x hx => (qel hu).2 (.inl (by rw [hcf]; exact hx)), fun hle => ?_, hr.smallS s⟩;have h3 := hu.seq;exact q10.2 ⟨hr.withS (by omega) hle, by show consC (q09 u).Votes = true; rw [g4]; exact hc⟩
theorem qll {v : Voter} (hv : q2w v = true) : Step v v := ⟨rfl, .inl rfl, fun _ h => h, fun _ h => h, fun _ h => h, fun _ => hv, (q10.1 hv).1.small⟩
theorem qud {v : Voter} (hv : q2w v = true) {x : Claim} (h : (voteV v x).2 = 0) : Step v (voteV v x).1 ∧ (voteV v x).1.Heard = v.Heard ∧ (voteV v x).1.Trust = v.Trust := by
 obtain ⟨hr, hc⟩ := q10.1 hv;unfold voteV at h ⊢;split at h
 ·simp at h
 ·rename_i h1;rw [if_neg h1];split at h
  ·simp at h
  ·rename_i h2;rw [if_neg h2];split
   ·exact ⟨qll hv, rfl, rfl⟩
   ·have hx : vcl x = true := by cases hx : vcl x with | true => rfl | false => exact absurd (.inr hx) h1
    have hm := fun y => qhh (y := y) (q0q.1 hr.votes).1 hx
    refine ⟨qh6 (hr.withV x) ?_ rfl rfl (fun y hy => (hm y).2 (.inl hy)) rfl rfl, ?_, ?_⟩
    ·have : consC (v.Votes ++ [x]) = true := by
      rw [qdc hc, dT'];exact fun y hy hcc => h2 ⟨y, by simp [hy], hcc⟩
     rw [q4l] at this ⊢;intro a ha b hb;exact this a (q1m.1 ha).2 b (q1m.1 hb).2
    ·obtain ⟨s, _, h4, _⟩ := q3t v { v with Votes := q0l (v.Votes ++ [x]) }
     dsimp only
     rw [h4]; exact (q2e _).2.2.2.2
    ·obtain ⟨s, _, h4, _⟩ := q3t v { v with Votes := q0l (v.Votes ++ [x]) }
     dsimp only
     rw [h4]; exact (q2e _).2.2.1
theorem qv9 {v : Voter} (hv : q2w v = true) {t : Trust} (h : (declV v t).2 = 0) : Step v (declV v t).1 ∧ (declV v t).1.Heard = v.Heard := by
 obtain ⟨hr, hc⟩ := q10.1 hv;unfold declV at h ⊢;rw [if_neg (by rw [hv]; simp)] at h ⊢;split at h
 ·rename_i h1; exact absurd h h1
 ·rename_i h1;rw [if_neg h1];split
  ·exact ⟨qll hv, rfl⟩
  ·refine ⟨qh6 (hr.withT ((q57 t).1 (by simpa using h1))) hc rfl rfl (fun _ h => h) rfl rfl, ?_⟩;obtain ⟨s, _, h4, _⟩ := q3t v { v with Trust := t }
   dsimp only
   rw [h4]; exact (q2e _).2.2.2.2
theorem qpp {v : Voter} (hv : q2w v = true) {m : Message} (hm : msgB m = true) (hn : m.Node ≠ v.Node) (ho : oldB v.Heard m = false) : hearV v m = (turnV v { v with Heard := hearL m v.Heard }, 0) := by
 unfold hearV;rw [if_neg (by rintro (h | h | h); rw [hv] at h; cases h; rw [hm] at h; cases h; exact hn h), if_neg (by rw [ho]; simp)]
theorem qms {v : Voter} {m : Message} (h : (hearV v m).2 = 0) : msgB m = true ∧ m.Node ≠ v.Node ∧ oldB v.Heard m = false := by
 unfold hearV at h;split at h
 ·simp at h
 ·rename_i h1;split at h
  ·simp at h
  ·rename_i h2;refine ⟨?_, fun e => h1 (.inr (.inr e)), ?_⟩
   ·cases hm : msgB m with | true => rfl | false => exact absurd (.inr (.inl hm)) h1
   ·cases ho : oldB v.Heard m with | false => rfl | true => exact absurd ho h2
theorem qhd {v : Voter} (hv : q2w v = true) {m : Message} (h : (hearV v m).2 = 0) : Step v (hearV v m).1 ∧ (hearV v m).1.Heard = hearL m v.Heard := by
 obtain ⟨hr, hc⟩ := q10.1 hv;obtain ⟨h1, h2, h3⟩ := qms h;rw [qpp hv h1 h2 h3];refine ⟨qh6 (hr.withH h1 h2) hc rfl rfl (fun _ h => h) rfl rfl, ?_⟩;obtain ⟨s, _, h4, _⟩ := q3t v { v with Heard := hearL m v.Heard }
 dsimp only
 rw [h4]; exact (q2e _).2.2.2.2
theorem qea : SmallV q5m := ⟨by simp [q5m, Small, size, sizes], by simp [q5m], by simp [q5m], by simp [q5m], by simp [q5m], fun m hm => by cases hm⟩
theorem qsd {b u : Voter} (hu : Ready u) : SmallV (turnV b u) := by
 obtain ⟨s, _, h2, _⟩ := q3t b u;rw [h2]; exact hu.settle.smallS s
theorem qst {v : Voter} (hs : SmallV v) (x : Claim) : SmallV (voteV v x).1 := by
 unfold voteV;split
 ·exact qea
 ·rename_i h;split
  ·exact qea
  ·split
   ·exact hs
   ·refine qsd (Ready.withV (q10.1 ?_).1 x);cases hv : q2w v with | true => rfl | false => exact absurd (.inl hv) h
theorem qfs {n : Int} {t : Trust} (hn : inR n = true) (ht : valid t = true) : qng n t = (⟨n, 1, t, [], [], [], []⟩, 0) ∧ q2w ⟨n, 1, t, [], [], [], []⟩ = true := by
 constructor
 ·rw [qng, if_neg (by rw [hn]; simp), if_neg (by rw [(q57 t).2 ht]; simp)]
 ·rw [q10];exact ⟨⟨hn, ⟨by show (1 : Int) ≤ 1; omega, by show (1 : Int) ≤ 1000000; omega⟩, ht, rfl, rfl, rfl, by simp [consC], (fun x hx => by cases hx), rfl⟩, by simp [consC]⟩
theorem qs9 (v : Voter) : sameV v v = true := qvw.2 rfl
def exT : Trust := ⟨1, [3], []⟩
def exV : Voter := ⟨3, 1, exT, [], [], [], []⟩
def exU : Voter := ⟨3, 1, exT, [⟨1, 2⟩], [], [], []⟩
theorem qm7 : (q09 exU).Accepts = [⟨1, 2⟩] ∧ (q09 exU).Confirms = [⟨1, 2⟩] := by decide +kernel
theorem qbi : valid exT = true ∧ q2w exV = true := by decide +kernel
theorem y77 : q0l ([] ++ [⟨1, 2⟩]) = [(⟨1, 2⟩ : Claim)] := by decide +kernel
theorem y2z : turnV exV exU = ⟨3, 2, exT, [⟨1, 2⟩], [⟨1, 2⟩], [⟨1, 2⟩], []⟩ := by
 obtain ⟨h1, h2, h3, h4, h5⟩ := q2e exU;rw [turnV, if_neg (by rw [h4]; rintro ⟨_, h, _⟩; simp [exV, exU] at h), h2];have e : q09 exU = ⟨(q09 exU).Node, (q09 exU).Seq, (q09 exU).Trust, (q09 exU).Votes, (q09 exU).Accepts, (q09 exU).Confirms, (q09 exU).Heard⟩ := rfl;rw [e, h1, h3, h4, h5, qm7.1, qm7.2];rfl
theorem y2v : voteV exV ⟨1, 2⟩ = (⟨3, 2, exT, [⟨1, 2⟩], [⟨1, 2⟩], [⟨1, 2⟩], []⟩, 0) := by
 have hw : ({ exV with Votes := q0l (exV.Votes ++ [⟨1, 2⟩]) } : Voter) = exU := by
  show (⟨3, 1, exT, q0l ([] ++ [⟨1, 2⟩]), [], [], []⟩ : Voter) = exU;rw [y77]; rfl
 rw [voteV, if_neg (by rw [qbi.2]; decide), if_neg (by simp [exV]), if_neg (by simp [exV]), hw, y2z]
theorem qxn : (voteV ⟨3, 2, exT, [⟨1, 2⟩], [⟨1, 2⟩], [⟨1, 2⟩], []⟩ ⟨1, 3⟩).2 = 14 := by
 have : q2w ⟨3, 2, exT, [⟨1, 2⟩], [⟨1, 2⟩], [⟨1, 2⟩], []⟩ = true := by decide +kernel
 rw [voteV, if_neg (by rw [this]; decide), if_pos ⟨⟨1, 2⟩, by simp, by decide⟩]
theorem qrm {l : List Int} {i : Int} (h : q12 l i) : ∃ x j, z6h l i = some (x, l, j) ∧ q12 l j := by
 obtain ⟨x0, i0, g0, g0', g0'x, g0''⟩ := N_ok (n := 30) (by omega) (by omega) h;by_cases e : x0 = 29
 ·obtain ⟨x1, i1, g1, _, g1'⟩ := qq1 (ps := [-1, 0, 7, 8]) (by decide) (by decide) g0'';obtain ⟨x2, i2, g2, _, g2'⟩ := qq1 (ps := [-1, 0, 15, 16]) (by decide) (by decide) g1';refine ⟨⟨x1, x2⟩, i2, y0w _ _ _ ?_, g2'⟩;rw [g0, bS]
  dsimp only
  rw [e, q3y, cT, g1, bS]
  dsimp only
  rw [g2]; rfl
 ·obtain ⟨x1, i1, g1, _, _, g1'⟩ := N_ok (n := 3) (by omega) (by omega) g0'';obtain ⟨x2, i2, g2, _, _, g2'⟩ := N_ok (n := 3) (by omega) (by omega) g1';refine ⟨⟨x1, x2⟩, i2, y0w _ _ _ ?_, g2'⟩;rw [g0, bS]
  dsimp only
  rw [q5f e, cF, g1, bS]
  dsimp only
  rw [g2]; rfl
theorem qlq {l : List Int} : ∀ (n : Nat) (acc : List Claim) (i : Int), n + acc.length ≤ 1000 → q12 l i → ∃ k j, z5c acc (n : Int) l i = some (k, l, j) ∧ k.length ≤ n + acc.length ∧ q12 l j
 | 0, acc, i, ha, h => ⟨acc, i, y0x _ _ _ _ _ (by rw [q01 (by omega)]; rfl), by omega, h⟩
 | n + 1, acc, i, ha, h => by
  obtain ⟨x, i1, g1, g1'⟩ := qrm h;obtain ⟨k, j, g2, g3, g4⟩ := qlq n (acc ++ [x]) i1 (by simp; omega) g1';refine ⟨k, j, y0x _ _ _ _ _ ?_, by simp at g3; omega, g4⟩;rw [q05 (by omega), cT, g1, bS, q0j (by simp [q0b]; omega), q2d (by omega) (by omega), show ((n + 1 : Nat) : Int) - 1 = (n : Int) by omega];exact g2
theorem qnt {n : Nat} (hn : n ≤ 100) {l : List Int} {i : Int} (h : q12 l i) : ∃ k j, z5w (n : Int) l i = some (k, l, j) ∧ k.length ≤ n ∧ q12 l j := by
 obtain ⟨x0, i0, g0, g0', g0'x, g0''⟩ := N_ok (n := (n : Int) + 1) (by omega) (by omega) h;obtain ⟨m, rfl⟩ : ∃ m : Nat, x0 = m := ⟨x0.toNat, by omega⟩;obtain ⟨k, j, g1, g2, g3⟩ := qlq (l := l) m [] i0 (by simp; omega) g0'';refine ⟨k, j, y8b _ _ _ _ ?_, by simp at g2; omega, g3⟩;rw [q2f (by omega) (by omega), g0, bS];exact g1
theorem qc5 {n : Int} (h1 : 1 ≤ n) (h2 : n ≤ 10) {l : List Int} {i : Int} (h : q12 l i) : ∃ t j, z5n n 2 l i = some (t, l, j) ∧ valid t = true ∧ q12 l j := by
 obtain ⟨t, j, g1, g2, _, g4⟩ := qyj h1 h2 1 (by decide) h;exact ⟨t, j, g1, g2.1, g4⟩
structure DrawnM (n : Int) (m : Message) : Prop where
 msg : msgB m = true
 node : 0 ≤ m.Node ∧ m.Node < n
 seq : 1 ≤ m.Seq ∧ m.Seq ≤ 5
theorem qin {n : Int} (h1 : 1 ≤ n) (h2 : n ≤ 10) {l : List Int} {i : Int} (h : q12 l i) : ∃ m j, z69 n l i = some (m, l, j) ∧ DrawnM n m ∧ q12 l j := by
 obtain ⟨x0, i0, g0, g0', g0'x, a0⟩ := N_ok (n := n) (by omega) (by omega) h;obtain ⟨x1, i1, g1, g1', g1'x, a1⟩ := qce (a := 1) (b := 5) (by omega) (by omega) (by omega) a0;obtain ⟨t, i2, g2, g2', a2⟩ := qc5 h1 h2 a1;obtain ⟨k, i3, g3, g3', a3⟩ := qnt (n := 3) (by omega) a2;obtain ⟨q, i4, g4, g4', a4⟩ := qnt (n := 2) (by omega) a3;have g3 : z5w 3 l i2 = some (k, l, i3) := g3;have g4 : z5w 2 l i3 = some (q, l, i4) := g4;refine ⟨⟨x0, x1, t, q0l k, q0l q⟩, i4, y5t _ _ _ _ ?_, ⟨q1v.2 ⟨by simp [inR]; omega, by show 1 ≤ x1; omega, g2', q15 _, q15 _⟩, by dsimp only; omega, by dsimp only; omega⟩, a4⟩;rw [g0, bS]
 dsimp only
 rw [g1, bS]
 dsimp only
 rw [g2, bS]
 dsimp only
 rw [g3, bS]
 dsimp only
 rw [q9x k (by omega), bS, g4, bS]
 dsimp only
 rw [q9x q (by omega), bS, Trust.etaM]
theorem DrawnM.later {n : Int} {m : Message} (h : DrawnM n m) {k : Int} (h0 : 0 ≤ k) (hk : k ≤ 100000) : addI .i64 m.Seq k = m.Seq + k ∧ msgB ⟨m.Node, m.Seq + k, m.Trust, m.Votes, m.Accepts⟩ = true := by
 have := h.seq;obtain ⟨h1, h2, h3, h4, h5⟩ := q1v.1 h.msg;exact ⟨q2f (by omega) (by omega), q1v.2 ⟨h1, by show 1 ≤ m.Seq + k; omega, h3, h4, h5⟩⟩
structure Gone (v : Voter) (k : Nat) : Prop where
 valid : q2w v = true
 seq : v.Seq ≤ (k : Int) + 1
theorem Gone.step {v w : Voter} {k : Nat} (h : Gone v k) (hk : k < 1000) (hs : Step v w) : Gone w (k + 1) := by
 have := h.seq;have := hs.seq;exact ⟨hs.ready (by omega), by omega⟩
theorem Gone.up {v : Voter} {k : Nat} (h : Gone v k) : Gone v (k + 1) := ⟨h.valid, by have := h.seq; omega⟩
theorem qof : law19_awake = some true := by
 have ht : Small (⟨1, [3], []⟩ : Trust) := q25 qbi.1;have hs : qng 3 ⟨1, [3], []⟩ = (exV, 0) := (qfs (n := 3) (t := exT) rfl qbi.1).1;have h1 := (q10.1 qbi.2).1;have hv : voteV exV ⟨1, 2⟩ = _ := y2v;have h2 : SmallV ⟨3, 2, exT, [⟨1, 2⟩], [⟨1, 2⟩], [⟨1, 2⟩], []⟩ := by have := qst h1.small ⟨1, 2⟩; rw [hv] at this; exact this
 apply law19_awake_le;rw [qjp 3 ht, hs, bS]
 dsimp only
 rw [q8h h1.small, hv, bS]
 dsimp only
 rw [q8h h2, bS, qxn, qy4 (q3s qbi.1).1 (by simp) (by simp)];rfl
theorem qo1 {a b : List Claim} (hb : plainC b = true) (ha : ∀ x ∈ a, x ∈ b) (hl : a.length < 1000000) : law19_kept a b = some true := by
 have hbl := q38 hb;apply law19_kept_le;have hs := q3p (a ++ b);rw [q9g _ _ hl (by omega), bS, q4k _ _ (by omega), bS];have : q0l (a ++ b) = b := qdf (q15 _) hb fun x => by
  rw [q1m, List.mem_append];exact ⟨fun h => h.2.elim (ha x) id, fun h => ⟨(q0q.1 hb).1 x h, .inr h⟩⟩
 rw [this]; simp
theorem qvh {α : Type} {v w : Voter} {k : Nat} (hv : Gone v k) (hk : k < 1000) (hs : Step v w) (A K : Option α) :
  (Option.bind (z4z w) fun x3 => bif (!x3) then A else Option.bind (z2w w) fun x4 => bif (!x4) then A else bif (ltB w.Seq v.Seq) then A else
   Option.bind (law19_kept v.Votes w.Votes) fun x5 => bif (!x5) then A else Option.bind (law19_kept v.Accepts w.Accepts) fun x6 => bif (!x6) then A else
   Option.bind (law19_kept v.Confirms w.Confirms) fun x7 => bif (!x7) then A else Option.bind (z26 w.Accepts) fun x8 => bif (!x8) then A else K) = K := by
 have hg := hv.step hk hs;have hr := (q10.1 hv.valid).1;have hw := (q10.1 hg.valid).1;have h1 := hr.vlen;have h2 := hr.alen;have h3 := hr.clen;have h4 := hw.alen;have h5 := hs.seq;rw [qt2 hs.small, q9k hs.small, hg.valid, qo1 hw.votes hs.votes (by omega), qo1 hw.accs hs.accs (by omega), qo1 hw.confs hs.confs (by omega), qkv _ (by omega), hw.cons, q01 (by omega)];rfl
structure Played (v : Voter) (k : Nat) : Prop where
 gone : Gone v k
 node : 0 ≤ v.Node ∧ v.Node < 4
 late : ∀ m ∈ v.Heard, m.Seq ≤ 5 * (k : Int) + 5
theorem Played.up {v : Voter} {k : Nat} (h : Played v k) : Played v (k + 1) := ⟨h.gone.up, h.node, fun m hm => by have := h.late m hm; omega⟩
theorem qmj {l : List Int} (m : Nat) (hm : m < 900) (d1 d2 d3 : Int) (d4 : List Int) (d5 : List Trust) (d6 d7 d8 : List Claim) (d9 : List Message) : ∀ (n k : Nat) (v : Voter) (i : Int), n + k = m → Played v k → q12 l i →
  ∃ w j, z1e 4 (m : Int) ((k + 1 : Nat) : Int) l i d1 d2 d3 d4 d5 d6 d7 d8 d9 v.Node v.Seq v.Trust.Threshold v.Trust.Nodes v.Trust.Inner v.Votes v.Accepts v.Confirms v.Heard = some (w, true, l, j) ∧ Played w m ∧ q12 l j
 | 0, k, v, i, hk, hv, h => by
  obtain rfl : k = m := by omega
  refine ⟨v, i, ?_, hv, h⟩;apply qgp;rw [q0f (by omega), cF, q19]
 | n + 1, k, v, i, hk, hv, h => by
  have hs := (q10.1 hv.gone.valid).1.small;have fin : ∀ (w : Voter) (j : Int), Played w (k + 1) → q12 l j → (∀ r, z1e 4 (m : Int) (addI .i64 ((k + 1 : Nat) : Int) 1) l j d1 d2 d3 d4 d5 d6 d7 d8 d9 w.Node w.Seq w.Trust.Threshold w.Trust.Nodes w.Trust.Inner w.Votes w.Accepts w.Confirms w.Heard = some r →
    z1e 4 (m : Int) ((k + 1 : Nat) : Int) l i d1 d2 d3 d4 d5 d6 d7 d8 d9 v.Node v.Seq v.Trust.Threshold v.Trust.Nodes v.Trust.Inner v.Votes v.Accepts v.Confirms v.Heard = some r) →
    ∃ w j, z1e 4 (m : Int) ((k + 1 : Nat) : Int) l i d1 d2 d3 d4 d5 d6 d7 d8 d9 v.Node v.Seq v.Trust.Threshold v.Trust.Nodes v.Trust.Inner v.Votes v.Accepts v.Confirms v.Heard = some (w, true, l, j) ∧ Played w m ∧ q12 l j := by
   intro w j hw hj hr;obtain ⟨w', j', g1, g2, g3⟩ := qmj m hm d1 d2 d3 d4 d5 d6 d7 d8 d9 n (k + 1) w j (by omega) hw hj;rw [q00 (by omega)] at hr;exact ⟨w', j', hr _ g1, g2, g3⟩
  obtain ⟨x0, i0, g0, g0', _, a0⟩ := N_ok (n := 5) (by omega) (by omega) h;by_cases e0 : x0 = 0
  ·obtain ⟨x, i1, g1, a1⟩ := qrm a0;by_cases e : (voteV v x).2 = 0
   ·obtain ⟨st, h1, h2⟩ := qud hv.gone.valid e;refine fin (voteV v x).1 i1 ⟨hv.gone.step (by omega) st, by rw [st.node]; exact hv.node, fun m hm => by rw [h1] at hm; have := hv.late m hm; omega⟩ a1 (fun r hr => ?_);apply qgp;rw [q0g (by omega), cT, g0, bS]
    dsimp only
    rw [e0, q3y, cT, g1, bS]
    dsimp only
    rw [q19, q8h hs, bS, e, q0t, cF];exact (qvh hv.gone (by omega) st _ _).trans hr
   ·refine fin v i1 hv.up a1 (fun r hr => ?_);apply qgp;rw [q0g (by omega), cT, g0, bS]
    dsimp only
    rw [e0, q3y, cT, g1, bS]
    dsimp only
    rw [q19, q8h hs, bS, q2a e, cT];exact hr
  ·by_cases e1 : x0 = 1
   ·obtain ⟨t, i1, g1, g1', a1⟩ := qc5 (n := 4) (by omega) (by omega) a0;by_cases e : (declV v t).2 = 0
    ·obtain ⟨st, h1⟩ := qv9 hv.gone.valid e;refine fin (declV v t).1 i1 ⟨hv.gone.step (by omega) st, by rw [st.node]; exact hv.node, fun m hm => by rw [h1] at hm; have := hv.late m hm; omega⟩ a1 (fun r hr => ?_);apply qgp;rw [q0g (by omega), cT, g0, bS]
     dsimp only
     rw [q5f e0, cF, e1, q3y, cT, g1, bS]
     dsimp only
     rw [q19, qfv hs (q25 g1'), bS, e, q0t, cF];exact (qvh hv.gone (by omega) st _ _).trans hr
    ·refine fin v i1 hv.up a1 (fun r hr => ?_);apply qgp;rw [q0g (by omega), cT, g0, bS]
     dsimp only
     rw [q5f e0, cF, e1, q3y, cT, g1, bS]
     dsimp only
     rw [q19, qfv hs (q25 g1'), bS, q2a e, cT];exact hr
   ·obtain ⟨q, i1, g1, g1', a1⟩ := qin (n := 4) (by omega) (by omega) a0;have hmul : mulI .i64 5 ((k + 1 : Nat) : Int) = 5 * ((k + 1 : Nat) : Int) := wrap64 (by omega) (by omega);obtain ⟨q1, q2⟩ := g1'.later (k := 5 * ((k + 1 : Nat) : Int)) (by omega) (by omega);have hps := qfz hs (q0x q2);by_cases e : (hearV v ⟨q.Node, q.Seq + 5 * ((k + 1 : Nat) : Int), q.Trust, q.Votes, q.Accepts⟩).2 = 0
    ·obtain ⟨st, h1⟩ := qhd hv.gone.valid e;have hq := g1'.seq;refine fin (hearV v ⟨q.Node, q.Seq + 5 * ((k + 1 : Nat) : Int), q.Trust, q.Votes, q.Accepts⟩).1 i1 ⟨hv.gone.step (by omega) st, by rw [st.node]; exact hv.node, fun m hm => by
      rw [h1] at hm;rcases qli hm with hm | hm
      ·rw [hm]; dsimp only; omega
      ·have := hv.late m hm; omega⟩ a1 (fun r hr => ?_)
     apply qgp;rw [q0g (by omega), cT, g0, bS]
     dsimp only
     rw [q5f e0, cF, q5f e1, cF, g1, bS]
     dsimp only
     rw [q19, hmul, q1, Trust.etaM, hps, bS, e, q0t, cF];exact (qvh hv.gone (by omega) st _ _).trans hr
    ·refine fin v i1 hv.up a1 (fun r hr => ?_);apply qgp;rw [q0g (by omega), cT, g0, bS]
     dsimp only
     rw [q5f e0, cF, q5f e1, cF, g1, bS]
     dsimp only
     rw [q19, hmul, q1, Trust.etaM, hps, bS, q2a e, cT];exact hr
theorem qh8 {l : List Int} {i : Int} (m : Nat) (hm : m < 900) (h : q12 l i) : ∃ v j, law19_played 4 (m : Int) l i = some (v, true, l, j) ∧ Played v m ∧ q12 l j := by
 obtain ⟨x0, i0, g0, g0', _, a0⟩ := N_ok (n := 4) (by omega) (by omega) h;obtain ⟨t, i1, g1, g1', a1⟩ := qc5 (n := 4) (by omega) (by omega) a0;obtain ⟨s1, s2⟩ := qfs (n := x0) (by simp [inR]; omega) g1';obtain ⟨w, j, q1, q2, q3⟩ := qmj (l := l) m hm 0 0 0 [] [] [] [] [] [] m 0 ⟨x0, 1, t, [], [], [], []⟩ i1 rfl ⟨⟨s2, by show (1 : Int) ≤ _; omega⟩, by dsimp only; omega, fun m hm => by cases hm⟩ a1;refine ⟨w, j, law19_played_le _ _ _ _ _ ?_, q2, q3⟩;rw [g0, bS]
 dsimp only
 rw [g1, bS]
 dsimp only
 rw [qjp x0 (q25 g1'), s1, bS]
 dsimp only
 rw [q0t, cF];exact q1
theorem y2e (t : List Int) : law19_VotingKeeps t = some true := by
 obtain ⟨l, g0, a0⟩ := qut t;obtain ⟨v, j, g1, _, _⟩ := qh8 (l := l) 8 (by omega) a0;have g1 : law19_played 4 8 l 0 = some (v, true, l, j) := g1;apply law19_VotingKeeps_le;rw [g0, bS]
 dsimp only
 rw [g1, bS]
 dsimp only
 rw [cT, qof]; rfl
theorem qr7 {v : Voter} (h : SmallV v) : z5h v v = some true := by rw [qxk h, qs9]
section
variable (n0 : Int) (ws : List Voter) (c i : Int) (raw : Voter) (m : Message) (x : Claim) (y : Trust) (v : Voter) (z : Message) {l : List Int}
end
theorem qtr (u : Voter) (s : Int) (x : Claim) : votes (allM { u with Seq := s }) x = votes (allM u) x := by
 simp only [votes, who, allM, List.foldl_append, List.foldl_cons, List.foldl_nil, say]
theorem qf1 (u : Voter) (s : Int) (x : Claim) : q0u (allM { u with Seq := s }) x = q0u (allM u) x := by
 simp only [q0u, who, allM, List.foldl_append, List.foldl_cons, List.foldl_nil, say]
theorem qv8 (u : Voter) (s : Int) : known { u with Seq := s } = known u := by
 simp only [known, q52, allM, List.flatMap_append, List.flatMap_cons, List.flatMap_nil, say]
theorem qxm (u : Voter) (s : Int) (x : Claim) : canB { u with Seq := s } x = canB u x := by
 simp only [canB, qtr, qf1]; rfl
theorem qjm {w : Voter} (h : Ready w) (C : List Claim) (hC : C.length < 1000000) (a10 : List Int) (a12 a14 a16 a18 : Int) (a20 : List Int) (a22 : List Trust) (a24 a26 : List Claim) (a30 : List Message)
  (hcf : ∀ y ∈ w.Accepts, (y ∈ w.Confirms ↔ y ∈ C ∨ confB (viewV w) w.Node.toNat (q0u (allM w) y) = true)) : ∀ (suf : List Claim) (i : Nat), w.Accepts.drop i = suf →
  z1s (allM w) w.Accepts ((w.Accepts.length : Nat) : Int) (i : Int) a10 a12 a14 a16 a18 a20 a22 a24 a26 C a30 w.Node w.Seq w.Trust.Threshold w.Trust.Nodes w.Trust.Inner w.Votes w.Accepts w.Confirms w.Heard = some true
 | [], i, g => by
  apply y1e;rw [q0h g, cF, qof]; rfl
 | y :: suf, i, g => by
  have hlt := q0e g;have hlen := h.len;have hh := h.hlen;have hal := h.alen;have hcl := h.clen;obtain ⟨n1, n2⟩ := h.node';have hacc : z58 (viewV w) w.Node ((q0u (allM w) y : Nat) : Int) = some (confB (viewV w) w.Node.toNat (q0u (allM w) y)) := by
   have := qyh h.view (q7v h.all y) n1;rw [n2] at this; exact this
  have hvw : z5k w.Node w.Trust w.Heard = some (viewV w) := qqc h.node h.tr w.Heard (by omega) h.msg;have hy := hcf y (List.mem_of_mem_drop (i := i) (by rw [g]; simp));have ih := qjm h C hC a10 a12 a14 a16 a18 a20 a22 a24 a26 a30 hcf suf (i + 1) (q02 g);apply y1e;rw [q06 g, cT, q04 g, Trust.etaM, hvw, bS, qry _ (by omega) h.all, bS, hacc, bS, q8i _ (by omega), bS, q8i _ (by omega), bS, q00 (by omega), ih];cases hc : confB (viewV w) w.Node.toNat (q0u (allM w) y) with
  | true =>
   have : y ∈ w.Confirms := hy.2 (.inr hc);simp [this]
  | false =>
   rw [hc] at hy;have : y ∈ w.Confirms ↔ y ∈ C := by simpa using hy
   by_cases e : y ∈ C
   ·simp [e, this.2 e]
   ·have hn : ¬ y ∈ w.Confirms := fun h => e (this.1 h)
    simp [e, hn]
theorem qja {w : Voter} (h : Ready w) (L : List Claim) (hL : L.length < 1000) (v : Voter) (a8 : List Int) (a10 : Int) (hc : ∀ y ∈ L, canB w y = false)
  (hnext : z1s (allM w) w.Accepts ((w.Accepts.length : Nat) : Int) 0 a8 a10 v.Node v.Seq v.Trust.Threshold v.Trust.Nodes v.Trust.Inner v.Votes v.Accepts v.Confirms v.Heard w.Node w.Seq w.Trust.Threshold w.Trust.Nodes w.Trust.Inner w.Votes w.Accepts w.Confirms w.Heard = some true) : ∀ (suf : List Claim) (i : Nat), L.drop i = suf →
  z27 L ((L.length : Nat) : Int) (i : Int) a8 a10 v.Node v.Seq v.Trust.Threshold v.Trust.Nodes v.Trust.Inner v.Votes v.Accepts v.Confirms v.Heard w.Node w.Seq w.Trust.Threshold w.Trust.Nodes w.Trust.Inner w.Votes w.Accepts w.Confirms w.Heard = some true
 | [], i, g => by
  have hh := h.hlen;apply y0m;rw [q0h g, cF, q0j (by simp [q0b]; omega), q19, qux, bS, q0j (by simp [q0b]; omega), qi5];exact hnext
 | y :: suf, i, g => by
  have hlt := q0e g;apply y0m;rw [q06 g, cT, q04 g, q19, y2d h, bS, hc y (List.mem_of_mem_drop (i := i) (by rw [g]; simp)), cF, q00 (by omega)];exact qja h L hL v a8 a10 hc hnext suf (i + 1) (q02 g)
theorem qy6 {u : Voter} (hu : Ready u) (s : Int) (C : List Claim) (hC : ∀ y, y ∈ u.Confirms ↔ y ∈ C) {y : Claim} (hy : y ∈ ({ q09 u with Seq := s } : Voter).Accepts) :
  y ∈ ({ q09 u with Seq := s } : Voter).Confirms ↔ y ∈ C ∨ confB (viewV { q09 u with Seq := s }) ({ q09 u with Seq := s } : Voter).Node.toNat (q0u (allM { q09 u with Seq := s }) y) = true := by
 have e : confB (viewV { q09 u with Seq := s }) ({ q09 u with Seq := s } : Voter).Node.toNat (q0u (allM { q09 u with Seq := s }) y) = confB (viewV (q09 u)) (q09 u).Node.toNat (q0u (allM (q09 u)) y) := by rw [qf1]; rfl
 rw [e, ← hC];have hy' : y ∈ (q09 u).Accepts := hy;have := qel hu (y := y);show y ∈ (q09 u).Confirms ↔ _;rw [this];exact ⟨fun h => h.imp id (fun h => h.2), fun h => h.imp id (fun h => ⟨hy', h⟩)⟩
theorem qwd (t : List Int) : law19_VotingSettles t = some true := by
 obtain ⟨l, g0, a0⟩ := qut t;obtain ⟨v, i1, g1, hv, a1⟩ := qh8 (l := l) 6 (by omega) a0;obtain ⟨t2, i2, g2, ht2, a2⟩ := qc5 (n := 4) (by omega) (by omega) a1;obtain ⟨x3, i3, g3, h3, h3', a3⟩ := N_ok (n := 3) (by omega) (by omega) a2;obtain ⟨x4, i4, g4, h4, h4', a4⟩ := N_ok (n := 3) (by omega) (by omega) a3;have g1 : law19_played 4 6 l 0 = some (v, true, l, i1) := g1;have hr := (q10.1 hv.gone.valid).1;have hn := hv.node;obtain ⟨nn, hnn⟩ : ∃ nn : Int, remI .i64 (addI .i64 v.Node 1) 4 = nn ∧ 0 ≤ nn ∧ nn < 4 ∧ nn ≠ v.Node := by
  rw [q2f (by omega) (by omega)];refine ⟨_, rfl, ?_⟩;have hcs : v.Node = 0 ∨ v.Node = 1 ∨ v.Node = 2 ∨ v.Node = 3 := by omega
  rcases hcs with e | e | e | e <;> rw [e] <;> decide
 obtain ⟨e1, hn0, hn4, hne⟩ := hnn
 let M : Message := ⟨nn, 100, t2, q0l [⟨x3, x4⟩], []⟩
 have hM : msgB M = true := q1v.2 ⟨by show inR nn = true; simp [inR]; omega, by show (1 : Int) ≤ 100; omega, ht2, q15 _, rfl⟩;have ho : oldB v.Heard M = false := by
  rw [oldB, List.any_eq_false];intro x hx;have := hv.late x hx;simp only [aT, dT', not_and];intro _;show ¬ (100 : Int) ≤ x.Seq;omega
 have hh := qpp hv.gone.valid hM hne ho;have hu := hr.withH hM hne;obtain ⟨st, _⟩ := qhd (m := M) hv.gone.valid (by rw [hh]);rw [hh] at st;have hg := hv.gone.step (by omega) st;have hw := (q10.1 hg.valid).1;obtain ⟨s, _, hform, _⟩ := q3t v { v with Heard := hearL M v.Heard }
 dsimp only at hform hw hg
 have hkl : (known (turnV v { v with Heard := hearL M v.Heard })).length ≤ 128 := q3p _;apply law19_VotingSettles_le;rw [g0, bS]
 dsimp only
 rw [g1, bS]
 dsimp only
 rw [g2, bS]
 dsimp only
 rw [g3, bS]
 dsimp only
 rw [g4, bS]
 dsimp only
 rw [q9x _ (by simp), bS, e1, Trust.etaM];have hp := qfz hr.small (q0x hM);rw [hh] at hp;have hp' : z4y v ⟨nn, 100, t2, q0l [⟨x3, x4⟩], []⟩ = _ := hp;rw [hp', bS, nT, cF]
 dsimp only
 rw [q0t, cF, quq hw, bS];refine qja hw _ (by omega) v l i4 (fun y hy => ?_) ?_ _ 0 rfl
 ·rw [hform] at hy ⊢;rw [qv8] at hy;rw [qxm];exact qp5 hu y hy
 ·refine qjm hw v.Confirms (by have := hr.clen; omega) l i4 _ _ _ _ _ _ _ _ (fun y hy => ?_) _ 0 rfl;rw [hform] at hy ⊢;exact qy6 hu s v.Confirms (fun _ => Iff.rfl) hy
theorem qjb {v : Voter} (hv : q2w v = true) (a7 : List Int) (a9 a29 a31 a33 : Int) (a35 : List Int) (a37 : List Trust) (a39 a41 a43 : List Claim) (a45 : List Message) : ∀ (suf : List Claim) (i : Nat), v.Votes.drop i = suf →
  z1n v.Votes ((v.Votes.length : Nat) : Int) (i : Int) a7 a9 v.Node v.Seq v.Trust.Threshold v.Trust.Nodes v.Trust.Inner v.Votes v.Accepts v.Confirms v.Heard a29 a31 a33 a35 a37 a39 a41 a43 a45 = some true
 | [], i, g => by
  apply qzp;rw [q0h g, cF, qof]; rfl
 | y :: suf, i, g => by
  obtain ⟨hr, _⟩ := q10.1 hv;have hlt := q0e g;have hvl := hr.vlen;have hy : y ∈ v.Votes := List.mem_of_mem_drop (i := i) (by rw [g]; simp);have hyc := (q0q.1 hr.votes).1 y hy;have ih := qjb hv a7 a9 a29 a31 a33 a35 a37 a39 a41 a43 a45 suf (i + 1) (q02 g);have hvote : voteV v y = (q5m, 14) ∨ voteV v y = (v, 0) := by
   unfold voteV;rw [if_neg (by rintro (h | h); rw [hv] at h; cases h; rw [hyc] at h; cases h)];split
   ·exact .inl rfl
   ·exact .inr (by first | rfl | rw [if_pos hy])
  apply qzp;rw [q06 g, cT, q04 g, q19, q8h hr.small, bS, q00 (by omega), ih];rcases hvote with e | e
  ·rw [e];simp only [q2a (show (14 : Int) ≠ 0 by decide), q0t, q5f (show (14 : Int) ≠ 0 by decide), cT, cF]
  ·rw [e];simp only [q0t, q3y, cT, cF, qr7 hr.small, bS, nT]
theorem qjk {l : List Int} : ∀ (n k c : Nat) (v : Voter) (i : Int), n + k = 5 → 1 ≤ k → c ≤ 500 → Gone v (c + k) → q12 l i →
  z1x (k : Int) l i v.Node v.Seq v.Trust.Threshold v.Trust.Nodes v.Trust.Inner v.Votes v.Accepts v.Confirms v.Heard = some true
 | 0, k, c, v, i, hk, hk1, hc, hv, h => by
  have hr := (q10.1 hv.valid).1;have hd : declV v v.Trust = (v, 0) := by
   rw [declV, if_neg (by rw [hv.valid]; simp), if_neg (by rw [(q57 _).2 hr.tr]; simp), if_pos rfl]
  apply y1z;rw [q01 (by omega), cF, q19, Trust.etaM, qfv hr.small hr.small.tr, hd, bS, q0t, cF, qr7 hr.small, bS, nT, cF];exact qjb hv.valid _ _ _ _ _ _ _ _ _ _ _ v.Votes 0 rfl
 | n + 1, k, c, v, i, hk, hk1, hc, hv, h => by
  have hr := (q10.1 hv.valid).1;have hq := hr.seq;have hvs := hv.seq;have hvl := hr.vlen;have hal := hr.alen;obtain ⟨m, i1, g1, hm, a1⟩ := qin (n := 4) (by omega) (by omega) h;have hmul : mulI .i64 100 (k : Int) = 100 * (k : Int) := wrap64 (by omega) (by omega);obtain ⟨q1, q2⟩ := hm.later (k := 100 * (k : Int)) (by omega) (by omega);have hp := qfz hr.small (q0x q2);have ih := fun w hw => qjk n (k + 1) c w i1 (by omega) (by omega) hc hw a1
  apply y1z;rw [q05 (by omega), cT, g1, bS]
  dsimp only
  rw [q19, hmul, q1, Trust.etaM, hp, bS, q00 (by omega)];by_cases e : (hearV v ⟨m.Node, m.Seq + 100 * (k : Int), m.Trust, m.Votes, m.Accepts⟩).2 = 0
  ·obtain ⟨h1, h2, h3⟩ := qms e;obtain ⟨st, _⟩ := qhd hv.valid e;have hok := qpp hv.valid h1 h2 h3;rw [e, q0t, cF];have hg := hv.step (by omega) st;have hih := ih _ (show Gone _ (c + (k + 1)) from hg);rw [hok] at st hg hih ⊢
   dsimp only at st hg hih ⊢
   obtain ⟨s, hs, hform, hiff⟩ := q3t v { v with Heard := hearL ⟨m.Node, m.Seq + 100 * (k : Int), m.Trust, m.Votes, m.Accepts⟩ v.Heard };have hsame := q2e { v with Heard := hearL ⟨m.Node, m.Seq + 100 * (k : Int), m.Trust, m.Votes, m.Accepts⟩ v.Heard };rw [hform] at hih ⊢
   dsimp only at hih hs hiff ⊢
   rw [hsame.2.2.2.1] at hih ⊢
   dsimp only at hih ⊢
   rw [q4k _ _ (by omega), bS, q4k _ _ (by omega), bS, q2f (by omega) (by omega), q01 (by omega), hih];have : eqB s v.Seq = decide (v.Accepts = (q09 { v with Heard := hearL ⟨m.Node, m.Seq + 100 * (k : Int), m.Trust, m.Votes, m.Accepts⟩ v.Heard }).Accepts) := by
    unfold eqB;rw [Bool.eq_iff_iff, dT', dT', hiff];simp
   rw [this];simp
  ·rw [q2a e, cT];exact ih v hv.up
theorem qvo (t : List Int) : law19_VotingNumbers t = some true := by
 obtain ⟨l, g0, a0⟩ := qut t;obtain ⟨v, j, g1, hv, a1⟩ := qh8 (l := l) 5 (by omega) a0;have g1 : law19_played 4 5 l 0 = some (v, true, l, j) := g1;apply law19_VotingNumbers_le;rw [g0, bS]
 dsimp only
 rw [g1, bS, nT, cF]
 dsimp only
 exact qjk 4 1 4 v j rfl (Nat.le_refl _) (by omega) hv.gone a1
end Go.Proofs.YthbpagedblodfaaGreat
namespace Go.Proofs.YthbpagedblodfaaGreat
open Go Go.Ab Go.ChangeShapes Go.WideShapes Go.ChangeAt Go.WideMaps Go.WideElems Go.RowKit
theorem Tryz.own : ownKnob Tryz.prog.godebug = none := by kernel_rfl
theorem Tryz.laidOut : laidOutB Tryz.prog = true := by kernel_rfl
theorem qhm {f : Nat} (hlaw : ∀ zs : List Int, (∀ z ∈ zs, (Lit.int .i64 z).wf = true) → ∃ n h', call env n f [.d (ints .i64 zs)] [] = some (.d (.v (.bool true)), h'))
  {W : World} {v : Value} {zs : List Int} (hz : ∀ z ∈ zs, (Lit.int .i64 z).wf = true) (hv : Rep W q8b (ints .i64 zs) v) :
  Calls Tryz.prog f #[v] W fun e w' => e = .returned (.bool true) ∧ Below W.heap.size W w' := by
 obtain ⟨n, h', hc⟩ := hlaw zs hz;exact top (E := env) (y46 n) (fun g cs hg => by cases hg) (ds := [ints .i64 zs]) hc rfl (fun i d hd => by
  cases i with
  | zero => simp at hd; subst hd; exact hv
  | succ i => simp at hd)
end Go.Proofs.YthbpagedblodfaaGreat
