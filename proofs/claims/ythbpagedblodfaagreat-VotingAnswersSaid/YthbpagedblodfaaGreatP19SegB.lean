/- Laws of the printed functions. -/
import Derived.Test.YthbpagedblodfaaGreatP19SegA
import Derived.Test.YthbpagedblodfaaGreatMachC
import Derived.Test.YthbpagedblodfaaGreatRows
import Derived.ProofKit
import Derived.LaidMore
import Derived.OpenShut
import Derived.Stop.Joined
namespace Go.Proofs.YthbpagedblodfaaGreat
open Go Go.Ab Go.Sort
instance : DecidableEq Claim := fun a b => decidable_of_iff (a.Topic = b.Topic /\ a.Value = b.Value) (by cases a; cases b; simp)
def vcl (x : Claim) : Bool := decide (0 <= x.Topic) && (decide (x.Topic < 8) && (decide (0 <= x.Value) && decide (x.Value <= 15)))
theorem qx6 {x : Claim} : vcl x = true ↔ 0 <= x.Topic /\ x.Topic < 8 /\ 0 <= x.Value /\ x.Value <= 15 := by simp [vcl]
def ltc (a b : Claim) : Prop := a.Topic < b.Topic \/ a.Topic = b.Topic /\ a.Value < b.Value
instance (a b : Claim) : Decidable (ltc a b) := inferInstanceAs (Decidable (_ \/ _ /\ _))
theorem qc0 {a b c : Claim} (h : ltc a b) (h' : ltc b c) : ltc a c := by unfold ltc at *; omega
theorem q42 (a : Claim) : ¬ ltc a a := by unfold ltc; omega
theorem qww {a b : Claim} (h : a ≠ b) (h' : ¬ ltc b a) : ltc a b := by
 have : ¬ (a.Topic = b.Topic /\ a.Value = b.Value) := fun e => h (by cases a; cases b; simp_all)
 unfold ltc at *; omega
def cmpc (a b : Claim) : Int := if ltc a b then -1 else if a = b then 0 else 1
theorem eqc {a b : Claim} : ((eqB a.Topic b.Topic) && ((eqB a.Value b.Value) && true)) = decide (a = b) := by
 cases a; cases b; simp [eqB]
theorem qcr (x : Claim) : z5v x = some (vcl x) := by
 apply y6c;unfold vcl leB ltB;by_cases h1 : 0 <= x.Topic <;> by_cases h2 : x.Topic < 8 <;> by_cases h3 : 0 <= x.Value <;> simp [h1, h2, h3]
theorem qdo (x : Claim) : z6w x = some (vcl x) := by
 apply y63;unfold vcl leB ltB;by_cases h1 : 0 <= x.Topic <;> by_cases h2 : x.Topic < 8 <;> by_cases h3 : 0 <= x.Value <;> simp [h1, h2, h3]
theorem qgh (x y : Int) : z3u x y = some (if x < y then -1 else if y < x then 1 else 0) := by
 have hn : ∀ z, z5r z = some false := fun z => y8d _ _ (by simp [neB])
 apply y83;rw [hn, hn];by_cases h : x < y
 .simp [ltB, h]
 .by_cases h' : y < x <;> simp [ltB, h, h']
theorem qzs (x y : Int) : z7c [x, y] = some (if x ≠ 0 then x else y) := by
 apply y60;apply qye;rw [q04 (by simp), q0u (y := x) (by omega) rfl];simp only [cT];by_cases h : x = 0
 .subst h;simp only [q14, cF];rw [show addI .i64 0 1 = 1 from rfl];apply qye;rw [q04 (by simp), q0u (y := y) (by omega) rfl];simp only [cT];by_cases h' : y = 0
  .subst h';simp only [q14, cF];rw [show addI .i64 1 1 = 2 from rfl];apply qye;rw [q01 (by simp)];simp
  .rw [q31 h']; simp
 .rw [q31 h]; simp [h]
theorem qv1 (a b : Claim) : z09 a b = some (cmpc a b) := by
 apply y5a;rw [qgh, qgh];simp only [bS, qzs];cases a with | mk a1 a2 => cases b with | mk b1 b2 =>
 simp only [cmpc, ltc, Claim.mk.injEq];congr 1
 split <;> split <;> (try split) <;> (try split) <;> (try split) <;> omega
theorem qzn (a b : Claim) : z6q a b = some (cmpc a b) := by
 apply yap;rw [eqc];by_cases h : a = b
 .subst h; simp [cmpc, q42]
 .have : ¬ (a.Topic = b.Topic /\ a.Value = b.Value) := fun e => h (by cases a; cases b; simp_all)
  simp only [h, decide_false, cF, cmpc, ltc, ltB, eqB];by_cases h1 : a.Topic < b.Topic
  .simp [h1]
  .by_cases h2 : a.Topic = b.Topic
   .by_cases h3 : a.Value < b.Value <;> simp [h2, h3]
   .simp [h1, h2]
def plainC : List Claim -> Bool
 | [] => true
 | [x] => vcl x
 | x :: y :: r => vcl x && (decide (ltc x y) && plainC (y :: r))
theorem qhm {x y : Claim} {r : List Claim} : plainC (x :: y :: r) = (vcl x && (decide (ltc x y) && plainC (y :: r))) := rfl
theorem q0w : ∀ {l : List Claim}, plainC l = true ↔ (∀ x ∈ l, vcl x = true) /\ l.Pairwise ltc
 | [] => by simp [plainC]
 | [x] => by simp [plainC]
 | x :: y :: r => by
  rw [qhm, aT, aT, dT', q0w (l := y :: r), List.pairwise_cons (a := x)];constructor
  .rintro ⟨h1, h2, h3, h4⟩;refine ⟨fun z hz => by rcases List.mem_cons.1 hz with rfl | hz; exact h1; exact h3 z hz, fun z hz => ?_, h4⟩;rcases List.mem_cons.1 hz with rfl | hz
   .exact h2
   .exact qc0 h2 ((List.pairwise_cons.1 h4).1 z hz)
  .rintro ⟨h1, h2, h3⟩;exact ⟨h1 x (by simp), h2 y (by simp), fun z hz => h1 z (by simp [hz]), h3⟩
theorem y1o {a b : Claim} : leB 0 (cmpc a b) = !decide (ltc a b) := by
 unfold cmpc leB;by_cases h : ltc a b
 .simp [h]
 .by_cases h' : a = b
  .subst h'; simp [q42]
  .simp [h, h']
theorem y2p {a b : Claim} : ltB (cmpc a b) 0 = decide (ltc a b) := by
 unfold cmpc ltB;by_cases h : ltc a b
 .simp [h]
 .by_cases h' : a = b
  .subst h'; simp [q42]
  .simp [h, h']
def plP : Option Claim -> List Claim -> Bool
 | _, [] => true
 | none, y :: r => vcl y && plP (some y) r
 | some z, y :: r => vcl y && (decide (ltc z y) && plP (some y) r)
theorem qr6 : ∀ {z : Claim} {l : List Claim}, vcl z = true -> plP (some z) l = plainC (z :: l)
 | z, [], h => by simp [plP, plainC, h]
 | z, y :: r, h => by
  rw [qhm, h, tA', plP];by_cases hy : vcl y = true
  .rw [qr6 hy, hy, tA']
  .have : plainC (y :: r) = false := by
    cases hp : plainC (y :: r) with
    | false => rfl
    | true => exact absurd ((q0w.1 hp).1 y (by simp)) hy
   rw [this]; simp [hy]
theorem qrs (l : List Claim) : plP none l = plainC l := by
 cases l with
 | nil => rfl
 | cons y r =>
  rw [plP];by_cases hy : vcl y = true
  .rw [hy, tA', qr6 hy]
  .have : plainC (y :: r) = false := by
    cases hp : plainC (y :: r) with
    | false => rfl
    | true => exact absurd ((q0w.1 hp).1 y (by simp)) hy
   rw [this]; simp [hy]
theorem qni (l : List Claim) (hl : l.length < 1152921504606846976) : ∀ (suf : List Claim) (i : Nat) (z : Claim), l[i]? = some z -> l.drop (i + 1) = suf -> z2k l l ((l.length : Nat) : Int) ((i + 1 : Nat) : Int) = some (plP (some z) suf)
 | [], i, z, hz, h => by
  apply qrg;rw [q0g h]; rfl
 | y :: suf, i, z, hz, h => by
  have hlt := q0b h;apply qrg;rw [q05 h, cT, q03 h, qcr, bS, q04 (by omega), cT, q23 (by omega) (by omega), q0u (y := z) (by omega) (by rw [show (((i + 1 : Nat) : Int) - 1).toNat = i by omega]; exact hz), qv1, bS, y1o, q00 (by omega),
   qni l hl suf (i + 1) y (by have := congrArg (·[0]?) h; simpa using this) (q02 h)]
  rw [plP];cases vcl y <;> by_cases hc : ltc z y <;> simp [hc]
theorem q95 (l : List Claim) (hl : l.length < 1152921504606846976) : z47 l = some (plainC l) := by
 apply y6k;rw [<- qrs];cases l with
 | nil =>
  apply qrg;simp [ltB, plP]
 | cons y r =>
  apply qrg;have h : (y :: r).drop 0 = y :: r := rfl;have h0 : ltB 0 (((y :: r).length : Nat) : Int) = true := q04 (by rw [List.length_cons]; omega);rw [h0, cT, q0u (y := y) (by omega) rfl, qcr, bS, q01 (by omega), cF, show addI .i64 0 1 = ((0 + 1 : Nat) : Int) from rfl, qni (y :: r) hl r 0 y rfl rfl, plP];cases vcl y <;> simp
theorem qme (l : List Claim) (hl : l.length < 1152921504606846976) : ∀ (suf : List Claim) (i : Nat) (z : Claim), l[i]? = some z -> l.drop (i + 1) = suf -> z2x l l ((l.length : Nat) : Int) ((i + 1 : Nat) : Int) = some (plP (some z) suf)
 | [], i, z, hz, h => by
  apply qr7;rw [q0g h]; rfl
 | y :: suf, i, z, hz, h => by
  have hlt := q0b h;apply qr7;rw [q05 h, cT, q03 h, qdo, bS, q04 (by omega), cT, q23 (by omega) (by omega), q0u (y := z) (by omega) (by rw [show (((i + 1 : Nat) : Int) - 1).toNat = i by omega]; exact hz), qzn, bS, y1o, q00 (by omega),
   qme l hl suf (i + 1) y (by have := congrArg (·[0]?) h; simpa using this) (q02 h)]
  rw [plP];cases vcl y <;> by_cases hc : ltc z y <;> simp [hc]
theorem q9e (l : List Claim) (hl : l.length < 1152921504606846976) : z4x l = some (plainC l) := by
 apply y6p;rw [<- qrs];cases l with
 | nil =>
  apply qr7;simp [ltB, plP]
 | cons y r =>
  apply qr7;have h0 : ltB 0 (((y :: r).length : Nat) : Int) = true := q04 (by rw [List.length_cons]; omega);rw [h0, cT, q0u (y := y) (by omega) rfl, qdo, bS, q01 (by omega), cF, show addI .i64 0 1 = ((0 + 1 : Nat) : Int) from rfl, qme (y :: r) hl r 0 y rfl rfl, plP];cases vcl y <;> simp
theorem quz (l : List Claim) (hl : l.length < 1152921504606846976) (x : Claim) : ∀ (suf : List Claim) (i : Nat), l.drop i = suf -> z5x l ((l.length : Nat) : Int) (i : Int) x.Topic x.Value = some (decide (x ∈ suf))
 | [], i, h => by
  apply y2e;rw [q0g h]; simp
 | y :: suf, i, h => by
  have hlt := q0b h;apply y2e;rw [q05 h, cT, q03 h, eqc, q00 (by omega), quz l hl x suf (i + 1) (q02 h)];by_cases hx : x = y <;> simp [hx]
theorem qbg (l : List Claim) (hl : l.length < 1152921504606846976) (x : Claim) : z5m l x = some (decide (x ∈ l)) := by
 apply y7n;exact quz l hl x l 0 rfl
theorem qx1 (l : List Claim) (hl : l.length < 1152921504606846976) (x : Claim) : ∀ (suf : List Claim) (i : Nat), l.drop i = suf -> ∃ r : Int, z1q l ((l.length : Nat) : Int) (i : Int) x.Topic x.Value = some r /\ leB 0 r = decide (x ∈ suf)
 | [], i, h => by
  refine ⟨-1, qyg _ _ _ _ _ _ ?_, by simp [leB]⟩;rw [q0g h]; simp
 | y :: suf, i, h => by
  have hlt := q0b h;obtain ⟨r, h1, h2⟩ := qx1 l hl x suf (i + 1) (q02 h);by_cases hx : x = y
  .refine ⟨i, qyg _ _ _ _ _ _ ?_, by simp [leB, hx]⟩;rw [q05 h, cT, q03 h, eqc]; simp [hx]
  .refine ⟨r, qyg _ _ _ _ _ _ ?_, by rw [h2]; simp [hx]⟩;rw [q05 h, cT, q03 h, eqc, q00 (by omega), decide_eq_false hx, cF, h1]
theorem qhr (l : List Claim) (hl : l.length < 1152921504606846976) (x : Claim) : z5j l x = some (decide (x ∈ l)) := by
 obtain ⟨r, h1, h2⟩ := qx1 l hl x l 0 rfl;apply y7m;have h3 : z35 l x = some r := y5f _ _ _ h1;have : z2o l x = some (decide (x ∈ l)) := by
  apply y7e;rw [h3, bS, h2]
 rw [this]; rfl
theorem qm9 (l k : List Claim) (hl : l.length < 1152921504606846976) (hk : l.length = k.length) : ∀ (suf suk : List Claim) (i : Nat), l.drop i = suf -> k.drop i = suk -> z5c l k ((l.length : Nat) : Int) (i : Int) = some (decide (suf = suk))
 | [], suk, i, h, h' => by
  have : suk = [] := by rw [<- h', List.drop_eq_nil_iff, <- hk]; exact List.drop_eq_nil_iff.1 h
  subst this;apply y32;rw [q0g h]; simp
 | y :: suf, [], i, h, h' => by
  have := q0b h;have := List.drop_eq_nil_iff.1 h';omega
 | y :: suf, z :: suk, i, h, h' => by
  have hlt := q0b h;apply y32;rw [q05 h, cT, q03 h, q03 h', eqc, q00 (by omega), qm9 l k hl hk suf suk (i + 1) (q02 h) (q02 h')];by_cases hx : y = z <;> simp [hx]
theorem q60 (l k : List Claim) (hl : l.length < 1152921504606846976) : z49 l k = some (decide (l = k)) := by
 apply y62;by_cases hk : l.length = k.length
 .rw [hk, q14, cF, <- hk];exact qm9 l k hl hk l k 0 rfl rfl
 .rw [q31 (by omega), cT];have : l ≠ k := fun e => hk (by rw [e])
  simp [this]
theorem qms (l k : List Claim) (hl : l.length < 1152921504606846976) (hk : l.length = k.length) : ∀ (suf suk : List Claim) (i : Nat), l.drop i = suf -> k.drop i = suk -> z1y l k ((l.length : Nat) : Int) (i : Int) = some (decide (suf = suk))
 | [], suk, i, h, h' => by
  have : suk = [] := by rw [<- h', List.drop_eq_nil_iff, <- hk]; exact List.drop_eq_nil_iff.1 h
  subst this;apply y31;rw [q0g h]; simp
 | y :: suf, [], i, h, h' => by
  have := q0b h;have := List.drop_eq_nil_iff.1 h';omega
 | y :: suf, z :: suk, i, h, h' => by
  have hlt := q0b h;apply y31;rw [q05 h, cT, q03 h, q03 h', eqc, q00 (by omega), qms l k hl hk suf suk (i + 1) (q02 h) (q02 h')];by_cases hx : y = z <;> simp [hx]
theorem q9i (l k : List Claim) (hl : l.length < 1152921504606846976) : z1s l k = some (decide (l = k)) := by
 apply y5z;by_cases hk : l.length = k.length
 .rw [hk, q14, cF, <- hk];exact qms l k hl hk l k 0 rfl rfl
 .rw [q31 (by omega), cT];have : l ≠ k := fun e => hk (by rw [e])
  simp [this]
def allC : List Claim := (List.range 8).flatMap fun (i : Nat) => (List.range 16).map fun (k : Nat) => ⟨(i : Int), (k : Int)⟩
def q0j (l : List Claim) : List Claim := allC.filter fun x => decide (x ∈ l)
theorem qza {x : Claim} : x ∈ allC ↔ vcl x = true := by
 rw [qx6, allC];simp only [List.mem_flatMap, List.mem_map, List.mem_range];constructor
 .rintro ⟨i, hi, k, hk, rfl⟩; dsimp only; omega
 .rintro ⟨h1, h2, h3, h4⟩;exact ⟨x.Topic.toNat, by omega, x.Value.toNat, by omega, by cases x; simp_all; omega⟩
theorem qzx : allC.Pairwise ltc := by decide +kernel
theorem q1g {x : Claim} {l : List Claim} : x ∈ q0j l ↔ vcl x = true /\ x ∈ l := by simp [q0j, qza]
theorem qb2 (l : List Claim) : (q0j l).Pairwise ltc := List.Pairwise.filter _ qzx
theorem q2t (l : List Claim) : (q0j l).length <= 128 := by
 have : allC.length = 128 := by decide +kernel
 rw [<- this]; exact List.length_filter_le _ _
theorem q1i (l : List Claim) : plainC (q0j l) = true := q0w.2 ⟨fun _x hx => (q1g.1 hx).1, qb2 l⟩
theorem qov : ∀ {l k : List Claim}, l.Pairwise ltc -> k.Pairwise ltc -> (∀ x, x ∈ l ↔ x ∈ k) -> l = k
 | [], [], _, _, _ => rfl
 | [], y :: k, _, _, h => by have := (h y).2 (by simp); cases this
 | x :: l, [], _, _, h => by have := (h x).1 (by simp); cases this
 | x :: l, y :: k, h1, h2, h => by
  rw [List.pairwise_cons] at h1 h2;have hxy : x = y := by
   by_cases e : x = y
   .exact e
   .have hx : x ∈ k := by rcases List.mem_cons.1 ((h x).1 (by simp)) with h | h; exact absurd h e; exact h
    have hy : y ∈ l := by rcases List.mem_cons.1 ((h y).2 (by simp)) with h | h; exact absurd h.symm e; exact h
    exact absurd (qc0 (h1.1 y hy) (h2.1 x hx)) (q42 x)
  subst hxy;rw [qov h1.2 h2.2 fun z => ?_];constructor
  .intro hz;rcases List.mem_cons.1 ((h z).1 (by simp [hz])) with e | h'
   .subst e; exact absurd (h1.1 z hz) (q42 z)
   .exact h'
  .intro hz;rcases List.mem_cons.1 ((h z).2 (by simp [hz])) with e | h'
   .subst e; exact absurd (h2.1 z hz) (q42 z)
   .exact h'
theorem qjk {l k : List Claim} (h1 : plainC l = true) (h2 : plainC k = true) (h : ∀ x, x ∈ l ↔ x ∈ k) : l = k := qov (q0w.1 h1).2 (q0w.1 h2).2 h
theorem qu1 {l : List Claim} (h : plainC l = true) : q0j l = l := qjk (q1i l) h fun x => by rw [q1g]; exact ⟨fun h => h.2, fun hx => ⟨(q0w.1 h).1 x hx, hx⟩⟩
theorem q64 {x : Claim} : ∀ {l : List Claim}, x ∈ q0d l ↔ x ∈ l
 | [] => Iff.rfl
 | [y] => Iff.rfl
 | y :: z :: r => by
  rw [q1m];split
  .rename_i e;subst e;rw [q64 (l := y :: r)]; simp
  .simp only [List.mem_cons, q64 (l := z :: r)]
theorem q9r : ∀ {l : List Claim}, l.Pairwise (fun x y => ¬ ltc y x) -> (q0d l).Pairwise ltc
 | [], _ => List.Pairwise.nil
 | [y], _ => by simp [q0d]
 | y :: z :: r, h => by
  rw [List.pairwise_cons] at h;rw [q1m];split
  .exact q9r h.2
  .rename_i e;refine List.pairwise_cons.2 ⟨fun u hu => ?_, q9r h.2⟩;have hyz := qww e (h.1 z (by simp));rcases List.mem_cons.1 (q64.1 hu) with rfl | hu
   .exact hyz
   .by_cases e2 : z = u
    .subst e2; exact hyz
    .exact qc0 hyz (qww e2 ((List.pairwise_cons.1 h.2).1 u hu))
theorem qrh (l : List Claim) (hl : l.length < 1152921504606846976) (i : Nat) (hi : i < 8) (Q : List Claim -> Prop) (hQ : ∀ acc : List Claim, acc.length <= 16 * (i + 1) -> ∃ r, z33 l acc ((i + 1 : Nat) : Int) = some (acc ++ r) /\ Q r) : ∀ (n k : Nat) (acc : List Claim), k + n = 16 -> acc.length <= 16 * i + k ->
  ∃ r, z2l l acc (i : Int) (k : Int) = some (acc ++ (((List.range' k n).map fun (k : Nat) => (⟨(i : Int), (k : Int)⟩ : Claim)).filter fun x => decide (x ∈ l)) ++ r) /\ Q r
 | 0, k, acc, hk, ha => by
  obtain ⟨r, h1, h2⟩ := hQ acc (by omega);refine ⟨r, qvr _ _ _ _ _ ?_, h2⟩;rw [q0e (by omega), cF, q00 (by omega), h1];simp
 | n + 1, k, acc, hk, ha => by
  have step := fun acc' h => qrh l hl i hi Q hQ n (k + 1) acc' (by omega) h
  by_cases hx : (⟨(i : Int), (k : Int)⟩ : Claim) ∈ l
  .obtain ⟨r, h1, h2⟩ := step (acc ++ [⟨(i : Int), (k : Int)⟩]) (by simp; omega);refine ⟨r, qvr _ _ _ _ _ ?_, h2⟩;rw [q0f (by omega), cT, qbg l hl, bS, decide_eq_true hx, cT, q0a (by simp [q07]; omega), q00 (by omega), h1];simp [List.range'_succ, hx]
  .obtain ⟨r, h1, h2⟩ := step acc (by omega);refine ⟨r, qvr _ _ _ _ _ ?_, h2⟩;rw [q0f (by omega), cT, qbg l hl, bS, decide_eq_false hx, cF, q00 (by omega), h1];simp [List.range'_succ, hx]
theorem qrn (l : List Claim) (hl : l.length < 1152921504606846976) : ∀ (n i : Nat) (acc : List Claim), i + n = 8 -> acc.length <= 16 * i ->
  ∃ r, z33 l acc (i : Int) = some (acc ++ r) /\ r = (((List.range' i n).flatMap fun (i : Nat) => (List.range 16).map fun (k : Nat) => (⟨(i : Int), (k : Int)⟩ : Claim)).filter fun x => decide (x ∈ l))
 | 0, i, acc, hi, ha => by
  refine ⟨[], y3p _ _ _ _ ?_, rfl⟩;rw [q01 (by omega)]; simp
 | n + 1, i, acc, hi, ha => by
  obtain ⟨r, h1, h2⟩ := qrh l hl i (by omega) (fun r => r = (((List.range' (i + 1) n).flatMap fun (i : Nat) => (List.range 16).map fun (k : Nat) => (⟨(i : Int), (k : Int)⟩ : Claim)).filter fun x => decide (x ∈ l))) (fun acc' h => qrn l hl n (i + 1) acc' (by omega) (by omega)) 16 0 acc (by omega) (by omega);refine ⟨_, y3p _ _ _ _ ?_, rfl⟩;rw [q04 (by omega), cT];have h1' : z2l l acc (i : Int) 0 = _ := h1;rw [h1', h2, List.append_assoc];simp only [List.range'_succ, List.flatMap_cons, List.filter_append, List.range_eq_range']
theorem q5l (l : List Claim) (hl : l.length < 1152921504606846976) : z3o l = some (q0j l) := by
 apply yac;obtain ⟨r, h1, h2⟩ := qrn l hl 8 0 [] rfl (by simp);have h1' : z33 l [] 0 = _ := h1;rw [h1', h2, List.nil_append, q0j, allC, List.range_eq_range' (n := 8)]
theorem qp3 (l : List Claim) (x : Claim) (hl : l.length < 1000000) : z72 l x = some (q0j (l ++ [x])) := by
 apply y9z;rw [q0a (by simp [q07]; omega), q0a (by simp [q07]; omega), List.nil_append, q5l _ (by simp; omega)];rfl
theorem q96 (a b : List Claim) (ha : a.length < 1000000) (hb : b.length < 1000000) : z4y a b = some (q0j (a ++ b)) := by
 apply ya4;rw [q0a (by simp [q07]; omega), q0a (by simp [q07]; omega), List.nil_append, q5l _ (by simp; omega)];rfl
theorem qve (l : List Claim) (hl : l.length < 1152921504606846976) (hv : ∀ x ∈ l, vcl x = true) : ∀ (suf : List Claim) (i : Nat), l.drop i = suf -> z0y ((l.length : Nat) : Int) (i : Int) l = some (-1, l)
 | [], i, h => by
  apply y2k;rw [q0g h]; simp
 | y :: suf, i, h => by
  have hlt := q0b h;apply y2k;have hy : vcl y = true := hv y (List.mem_of_mem_drop (i := i) (by rw [h]; simp));have h1 : z64 y = some false := y66 _ _ (by rw [qcr, hy]; rfl);have hg : l[i]? = some y := by have := congrArg (·[0]?) h; simpa using this
  rw [q05 h, cT, q03 h, tN, q3k hg, h1, bS, cF, q00 (by omega), qve l hl hv suf (i + 1) (q02 h)]
theorem qn5 (l : List Claim) : (l.map q0c).all flatD = true := by
 rw [List.all_eq_true]; intro x hx; obtain ⟨y, _, rfl⟩ := List.mem_map.1 hx; rfl
theorem qf0 (l : List Claim) : (l.map q0c).all (q4p 2) = true := by
 rw [List.all_eq_true]; intro x hx; obtain ⟨y, _, rfl⟩ := List.mem_map.1 hx; rfl
theorem qqx (l : List Claim) (hl : l.length < 1000000) : z6o l = some (q0d l, ()) := by
 refine qd2 (T := tn) (m := q5p 2) sigOk (by kernel_rfl) rfl ?_;show libA (q5p 2) [.ref 0] [[.own (l.map q0c) false]] = some (.d (.list ((q0d l).map q0c)), [[.undef]]);unfold libA q5p;have h1 : (l.map q0c).length <= q07 := by simp [q07]; omega
 simp only [qn5, qf0, h1, and_self, if_true];rw [q9h (fun a b h => q4r a b h) l];rfl
theorem qjf (l : List Claim) (hl : l.length < 65536) (hv : ∀ x ∈ l, vcl x = true) : z5y l = some (q0j l) := by
 apply y6n;have h1 : z1a l = some ((), l) := y2f _ _ (by rw [q0a (by simp [q07]; omega)]; rfl);have h2 : z1j l = some ((), l) := by
  apply y7d;rw [y9b _ _ (qve l (by omega) hv l 0 rfl)];rfl
 have hS : SWO (fun x y => ltB (cmpc x y) 0) := by
  refine ⟨fun x => ?_, fun x y z h h' => ?_, fun x y z h h' => ?_⟩ <;> simp only [y2p, dT', decide_eq_false_iff_not] at *
  .exact q42 x
  .exact qc0 h h'
  .unfold ltc at *; omega
 obtain ⟨ys, h3, h4, h5⟩ := y4c qv1 hS l hl;have h6 : z1f l = some ys := h3;rw [h1, bS, h2, bS, h6, bS, qqx ys (by rw [h4.length_eq]; omega)];show some (q0d ys) = _;congr 1
 refine qov (q9r (h5.imp fun h => by simpa [y2p] using h)) (qb2 l) fun x => ?_
 rw [q64, q1g, h4.mem_iff];exact ⟨fun h => ⟨hv x h, h⟩, fun h => h.2⟩
theorem qtx (a b : List Claim) (ha : a.length < 1000000) (hb : b.length < 1000000) : z6y [a, b] = some ((), a ++ b) := by
 refine qd2 (T := tn) (m := q7g 2) sigOk (by kernel_rfl) rfl ?_;show libA (q7g 2) [.d (.list [.list (a.map q0c), .list (b.map q0c)])] [] = some (.ref 0, [[.own ((a ++ b).map q0c) false]]);unfold libA q7g;have h0 : qdw [.list (a.map q0c), .list (b.map q0c)] = some [a.map q0c, b.map q0c] := rfl;have h1 : ([a.map q0c, b.map q0c] : List (List D)).flatten.length <= q07 := by simp [q07]; omega
 have h2 : ([.list (a.map q0c), .list (b.map q0c)] : List D).length <= q07 := by simp [q07]
 have h3 : ([a.map q0c, b.map q0c] : List (List D)).flatten = (a ++ b).map q0c := by simp
 simp only [h0, h2, h3, qf0, and_self];rw [h3] at h1;rw [if_pos ⟨h1, trivial⟩];rfl
theorem qxx (a b : List Claim) (ha : a.length < 30000) (hb : b.length < 30000) (hva : ∀ x ∈ a, vcl x = true) (hvb : ∀ x ∈ b, vcl x = true) : z70 a b = some (q0j (a ++ b)) := by
 apply y82;rw [qtx a b (by omega) (by omega), bS, qjf (a ++ b) (by simp; omega) (fun x hx => (List.mem_append.1 hx).elim (hva x) (hvb x))];rfl
theorem qqw (a : List Claim) (x : Claim) (ha : a.length < 30000) (hva : ∀ x ∈ a, vcl x = true) (hx : vcl x = true) : z6l a x = some (q0j (a ++ [x])) := by
 apply yai;rw [qxx a [x] ha (by simp) hva (fun y hy => by simp at hy; subst hy; exact hx)];rfl
def Contra (a b : Claim) : Prop := a.Topic = b.Topic /\ a.Value ≠ b.Value
instance (a b : Claim) : Decidable (Contra a b) := inferInstanceAs (Decidable (_ /\ _))
theorem Contra.symm {a b : Claim} (h : Contra a b) : Contra b a := ⟨h.1.symm, fun e => h.2 e.symm⟩
def consC (l : List Claim) : Bool := decide (∀ x ∈ l, ∀ y ∈ l, ¬ Contra x y)
theorem q4u {l : List Claim} : consC l = true ↔ ∀ x ∈ l, ∀ y ∈ l, ¬ Contra x y := by simp [consC]
theorem qtb (a b : Claim) : z5d a b = some (decide (Contra a b)) := by
 apply ya7;by_cases h : a.Topic = b.Topic <;> by_cases h' : a.Value = b.Value <;> simp [eqB, neB, Contra, h, h']
theorem qdq (a b : Claim) : z3x a b = some (decide (Contra a b)) := by
 apply y6d;by_cases h : a.Topic = b.Topic <;> by_cases h' : a.Value = b.Value <;> simp [eqB, neB, Contra, h, h']
theorem qsx (l : List Claim) (i : Nat) (x : Claim) (p : List Claim) (hp : p.length < 1152921504606846976) (hi : i < 1152921504606846976) (r : Bool) (hr : z25 l l ((l.length : Nat) : Int) ((i + 1 : Nat) : Int) = some r) : ∀ (suf : List Claim) (k : Nat), p.drop k = suf ->
  z2d l l ((l.length : Nat) : Int) (i : Int) p ((p.length : Nat) : Int) (k : Int) x.Topic x.Value = some (decide (∀ y ∈ suf, ¬ Contra x y) && r)
 | [], k, h => by
  apply y0z;rw [q0g h, cF, q00 (by omega), hr]; simp
 | y :: suf, k, h => by
  have hlt := q0b h;apply y0z;rw [q05 h, cT, q03 h, qdq, bS, q00 (by omega), qsx l i x p hp hi r hr suf (k + 1) (q02 h)];by_cases hx : Contra x y <;> simp [hx]
def consF : List Claim -> List Claim -> Bool
 | _, [] => true
 | p, y :: r => decide (∀ z ∈ p, ¬ Contra y z) && consF (p ++ [y]) r
theorem qsw (l : List Claim) (hl : l.length < 1152921504606846976) : ∀ (suf : List Claim) (i : Nat), l.drop i = suf -> z25 l l ((l.length : Nat) : Int) (i : Int) = some (consF (l.take i) suf)
 | [], i, h => by
  apply y1w;simp [q0g h, consF]
 | y :: suf, i, h => by
  have hlt := q0b h;have hg : l[i]? = some y := by have := congrArg (·[0]?) h; simpa using this
  apply y1w;have htk : l.take (i + 1) = l.take i ++ [y] := by rw [List.take_add_one, hg]; rfl
  rw [q05 h, cT, q03 h, qbu (by omega) (by omega), tN, List.drop_zero];have := qsx l i y (l.take i) (by simp; omega) (by omega) _ (qsw l hl suf (i + 1) (q02 h)) (l.take i) 0 rfl;have h' : z2d l l ((l.length : Nat) : Int) (i : Int) (l.take i) (((l.take i).length : Nat) : Int) 0 y.Topic y.Value = _ := this;rw [h', htk, consF]
theorem qmb : ∀ (r p : List Claim), consF p r = true ↔ (∀ y ∈ r, ∀ z ∈ p, ¬ Contra y z) /\ consC r = true
 | [], p => by simp [consF, consC]
 | y :: r, p => by
  rw [consF, aT, dT', qmb r (p ++ [y]), q4u, q4u];constructor
  .rintro ⟨h1, h2, h3⟩;refine ⟨fun u hu z hz => ?_, fun u hu z hz => ?_⟩
   .rcases List.mem_cons.1 hu with rfl | hu
    .exact h1 z hz
    .exact h2 u hu z (by simp [hz])
   .rcases List.mem_cons.1 hu with e | hu' <;> rcases List.mem_cons.1 hz with e' | hz'
    .subst e; subst e'; intro h; exact h.2 rfl
    .subst e; intro h; exact h2 z hz' u (by simp) h.symm
    .subst e'; exact h2 u hu' z (by simp)
    .exact h3 u hu' z hz'
  .rintro ⟨h1, h2⟩;exact ⟨h1 y (by simp), fun u hu z hz => by
    rcases List.mem_append.1 hz with hz | hz
    .exact h1 u (by simp [hu]) z hz
    .simp at hz; subst hz; exact h2 u (by simp [hu]) z (by simp), fun u hu z hz => h2 u (by simp [hu]) z (by simp [hz])⟩
theorem qrj (l : List Claim) (hl : l.length < 1152921504606846976) : z4r l = some (consC l) := by
 apply y7q;have h : z25 l l ((l.length : Nat) : Int) 0 = _ := qsw l hl l 0 rfl;rw [h, List.take_zero];congr 1
 rw [Bool.eq_iff_iff, qmb];simp
theorem qf3 : ∀ (l : List Claim), (∀ x ∈ l, vcl x = true) -> qec (l.map q0c) = some (l.map fun x => (x.Topic, x.Value))
 | [], _ => rfl
 | x :: r, h => by
  have hx := qx6.1 (h x (by simp));show (if _ then _ else _) = _;rw [if_pos (by omega)];rw [qf3 r fun y hy => h y (by simp [hy])]; rfl
theorem qen : ∀ (l : List Claim), q30 (l.map fun x => (x.Topic, x.Value)) = consC l
 | [] => rfl
 | x :: r => by
  rw [List.map_cons, q30, qen r, Bool.eq_iff_iff, aT, q4u, q4u, List.all_eq_true];simp only [List.mem_map, forall_exists_index, and_imp, forall_apply_eq_imp_iff₂];constructor
  .rintro ⟨h1, h2⟩ u hu z hz;have h1' : ∀ a ∈ r, ¬ Contra x a := fun a ha hc => by
    have := h1 a ha;simp [hc.1, hc.2] at this
   rcases List.mem_cons.1 hu with e | hu' <;> rcases List.mem_cons.1 hz with e' | hz'
   .subst e; subst e'; intro h; exact h.2 rfl
   .subst e; exact h1' z hz'
   .subst e'; intro h; exact h1' u hu' h.symm
   .exact h2 u hu' z hz'
  .intro h;refine ⟨fun a ha => ?_, fun u hu z hz => h u (by simp [hu]) z (by simp [hz])⟩;have := h x (by simp) a (by simp [ha]);simp only [Contra, not_and, ne_eq, Classical.not_not] at this;by_cases e : x.Topic = a.Topic
   .simp [this e]
   .simp [e]
theorem qlz (l : List Claim) (hl : l.length < 1000000) (hv : ∀ x ∈ l, vcl x = true) : z6b l = some (consC l) := by
 refine qd2 (T := tn) (m := q3h) sigOk (by kernel_rfl) rfl ?_;show libA q3h [.d (.list (l.map q0c))] [] = some (.d (.v (.bool (consC l))), []);unfold libA q3h;simp only [qf3 l hv, qen];rw [if_pos (by simp [q07]; omega)];rfl
end Go.Proofs.YthbpagedblodfaaGreat
namespace Go.Proofs.YthbpagedblodfaaGreat
open Go Go.Ab
noncomputable instance : DecidableEq Trust := fun a b => Classical.propDecidable (a = b)
theorem Trust.etaM (t : Trust) : Trust.mk t.Threshold t.Nodes t.Inner = t := by cases t; rfl
theorem q97 (t : Trust) : eqB (verr t) 0 = valid t := by
 have := q4f t;cases h : valid t with
 | true => rw [h] at this; simp [eqB, this.2 rfl]
 | false => rw [h] at this; simp only [fT, iff_false] at this; simp [eqB, this]
theorem qo8 (t : Trust) : neB (verr t) 0 = !valid t := by
 rw [<- q97]; simp [neB, eqB]
theorem qop (l k : List Int) (hl : l.length < 1152921504606846976) (hk : l.length = k.length) : ∀ (suf suk : List Int) (i : Nat), l.drop i = suf -> k.drop i = suk -> z20 l k ((l.length : Nat) : Int) (i : Int) = some (decide (suf = suk))
 | [], suk, i, h, h' => by
  have : suk = [] := by rw [<- h', List.drop_eq_nil_iff, <- hk]; exact List.drop_eq_nil_iff.1 h
  subst this;apply y2l;rw [q0g h]; simp
 | y :: suf, [], i, h, h' => by
  have := q0b h;have := List.drop_eq_nil_iff.1 h';omega
 | y :: suf, z :: suk, i, h, h' => by
  have hlt := q0b h;apply y2l;rw [q05 h, cT, q03 h, q03 h', q00 (by omega), qop l k hl hk suf suk (i + 1) (q02 h) (q02 h')];by_cases hx : y = z
  .subst hx; rw [q14]; simp
  .rw [q31 hx]; simp [hx]
theorem qwx (l k : List Int) (hl : l.length < 1152921504606846976) : z3k l k = some (decide (l = k)) := by
 apply y5n;by_cases hk : l.length = k.length
 .rw [hk, q14, cF, <- hk];exact qop l k hl hk l k 0 rfl rfl
 .rw [q31 (by omega), cT];have : l ≠ k := fun e => hk (by rw [e])
  simp [this]
theorem qy9 (l k : List Trust) (hl : l.length < 1152921504606846976) (hk : l.length = k.length) (hf : ∀ x ∈ l, ∀ y, z3f x y = some (decide (x = y))) : ∀ (suf suk : List Trust) (i : Nat), l.drop i = suf -> k.drop i = suk -> z0i k l ((l.length : Nat) : Int) (i : Int) = some (decide (suf = suk))
 | [], suk, i, h, h' => by
  have : suk = [] := by rw [<- h', List.drop_eq_nil_iff, <- hk]; exact List.drop_eq_nil_iff.1 h
  subst this;apply y2b;rw [q0g h]; simp
 | y :: suf, [], i, h, h' => by
  have := q0b h;have := List.drop_eq_nil_iff.1 h';omega
 | y :: suf, z :: suk, i, h, h' => by
  have hlt := q0b h;apply y2b;rw [q05 h, cT, q03 h, q03 h', hf y (List.mem_of_mem_drop (i := i) (by rw [h]; simp)), bS, q00 (by omega), qy9 l k hl hk hf suf suk (i + 1) (q02 h) (q02 h')];by_cases hx : y = z <;> simp [hx]
theorem qkx : ∀ a : Trust, Small a -> ∀ b : Trust, z3f a b = some (decide (a = b)) := by
 apply Trust.ind;intro a ih ha b;have hn := ha.nodes;have hi := ha.inner;apply y5i;have h1 : z1d a.Inner b.Inner = some (decide (a.Inner = b.Inner)) := by
  apply y8c;by_cases hk : a.Inner.length = b.Inner.length
  .rw [hk, q14, cF, <- hk];exact qy9 a.Inner b.Inner hi hk (fun x hx y => ih x hx (ha.mem hx) y) a.Inner b.Inner 0 rfl rfl
  .rw [q31 (by omega), cT];have : a.Inner ≠ b.Inner := fun e => hk (by rw [e])
   simp [this]
 rw [qwx _ _ hn, h1];cases a; cases b;simp only [Trust.mk.injEq, bS];rename_i t n i t' n' i';by_cases h1 : t = t' <;> by_cases h2 : n = n' <;> by_cases h3 : i = i' <;> simp [eqB, h1, h2, h3]
theorem qg6 (a : Trust) (ha : Small a) (b : Trust) : z3g a b = some (decide (a = b)) := by
 obtain ⟨r, h1, h2⟩ := y53 a ha b;rw [h1];congr 1
 rw [Bool.eq_iff_iff, h2]; simp
def msgB (m : Message) : Bool := inR m.Node && (decide (1 <= m.Seq) && (valid m.Trust && (plainC m.Votes && plainC m.Accepts)))
structure SmallM (m : Message) : Prop where
 tr : Small m.Trust
 votes : m.Votes.length < 1000000
 accs : m.Accepts.length < 1000000
theorem q3l {l : List Claim} (h : plainC l = true) : l.length <= 128 := by rw [<- qu1 h]; exact q2t l
theorem q1x {m : Message} : msgB m = true ↔ inR m.Node = true /\ 1 <= m.Seq /\ valid m.Trust = true /\ plainC m.Votes = true /\ plainC m.Accepts = true := by simp [msgB]
theorem q11 {m : Message} (h : msgB m = true) : SmallM m := by
 obtain ⟨_, _, h1, h2, h3⟩ := q1x.1 h;have := q3l h2;have := q3l h3;exact ⟨q2c h1, by omega, by omega⟩
theorem qry (k : Int) : z5p k = some (inR k) := by
 apply y5t;by_cases h : 0 <= k
 .simp [leB, ltB, inR, h]
 .simp [leB, ltB, inR, h]
theorem qef {m : Message} (h : SmallM m) : z32 m = some (msgB m) := by
 apply y9k;rw [qry, qcm _ h.tr, q95 _ (by have := h.votes; omega), q95 _ (by have := h.accs; omega)];simp only [bS, q97, msgB, leB];cases inR m.Node <;> cases decide (1 <= m.Seq) <;> cases valid m.Trust <;> cases plainC m.Votes <;> rfl
theorem qdp {m : Message} (h : SmallM m) : z4z m = some (msgB m) := by
 apply y86;rw [qcn _ h.tr, q9e _ (by have := h.votes; omega), q9e _ (by have := h.accs; omega)];simp only [bS, q97, msgB, leB, ltB, inR];cases decide (0 <= m.Node) <;> cases decide (m.Node < 10) <;> cases decide (1 <= m.Seq) <;> cases valid m.Trust <;> cases plainC m.Votes <;> rfl
theorem qjx : ∀ t : Trust, Fits t -> z3w t = some t := by
 apply Trust.ind;intro t ih ht;have hsz : size t < 1073741824 := ht;rw [q25] at hsz;have l1 : ∀ (suf : List Trust) (i : Nat) (acc : List Trust) (a8 : Int) (a10 : List Int) (a12 : List Trust) (a14 : Int) (a16 : List Int) (a18 : List Trust) (a20 : Int) (a22 : List Int), t.Inner.drop i = suf -> acc.length <= i ->
   z30 t.Inner ((t.Inner.length : Nat) : Int) (i : Int) a8 a10 a12 a14 a16 a18 a20 a22 acc = some ⟨a20, a22, acc ++ suf⟩ := by
  intro suf;induction suf with
  | nil =>
   intro i acc a8 a10 a12 a14 a16 a18 a20 a22 h ha;apply y0o;simp only [q0g h, cF, List.append_nil]
  | cons y suf ihs =>
   intro i acc a8 a10 a12 a14 a16 a18 a20 a22 h ha;have hlt := q0b h;have hy : y ∈ t.Inner := List.mem_of_mem_drop (by rw [h]; exact List.mem_cons_self);apply y0o;simp only [q05 h, cT, q03 h, ih y hy (ht.mem hy), bS, q00 (show i < 4611686018427387904 by omega), Trust.etaM];rw [q0a (by simp [q07]; omega), ihs (i + 1) (acc ++ [y]) _ _ _ _ _ _ _ _ (q02 h) (by simp; omega)];simp
 apply y7c;rw [q0a (by simp [q07]; omega), show (0 : Int) = ((0 : Nat) : Int) from rfl, l1 t.Inner 0 [] _ _ _ _ _ _ _ _ rfl (Nat.le_refl _)];simp []
def seeM (ms : List Member) (m : Message) : List Member := ms.set m.Node.toNat ⟨true, m.Trust⟩
def viewC (v : Int) (t : Trust) (l : List Message) : Config := ⟨(l.foldl seeM (List.replicate 10 ⟨false, ⟨0, [], []⟩⟩)).set v.toNat ⟨true, t⟩⟩
theorem q86 {k : Int} (h : inR k = true) : 0 <= k /\ k.toNat < 10 := by simp [inR] at h; omega
theorem qs8 {v : Int} {t : Trust} (hv : inR v = true) (ht : valid t = true) (l : List Message) (hl : l.length < 1152921504606846976) (hm : ∀ m ∈ l, msgB m = true /\ m.Node ≠ v) : ∀ (suf : List Message) (i : Nat) (ms : List Member) (a17 : List Member), l.drop i = suf -> ms.length = 10 ->
  z2e v l ((l.length : Nat) : Int) (i : Int) t.Threshold t.Nodes t.Inner a17 ms = some ⟨(suf.foldl seeM ms).set v.toNat ⟨true, t⟩⟩
 | [], i, ms, a17, h, hms => by
  obtain ⟨h0, h10⟩ := q86 hv;apply y35;rw [q0g h, cF, qry, bS, hv, cT, Trust.etaM, qcm _ (q2c ht), bS, q97, ht, cT, qjx _ (q2n ht).1, bS, Trust.etaM,
   q0u (y := ms[v.toNat]'(by omega)) h0 (by simp), q3k (y := ms[v.toNat]'(by omega)) (by simp)]
  rfl
 | m :: suf, i, ms, a17, h, hms => by
  have hlt := q0b h;obtain ⟨g1, g2⟩ := hm m (List.mem_of_mem_drop (i := i) (by rw [h]; simp));obtain ⟨k1, _, k3, _⟩ := q1x.1 g1;obtain ⟨h0, h10⟩ := q86 k1;apply y35;rw [q05 h, cT, q03 h, q31 g2, cT, qef (q11 g1), bS, g1, cT, qjx _ (q2n k3).1, bS, Trust.etaM,
   q0u (y := ms[m.Node.toNat]'(by omega)) h0 (by simp), q3k (y := ms[m.Node.toNat]'(by omega)) (by simp), q00 (by omega), qs8 hv ht l hl hm suf (i + 1) _ a17 (q02 h) (by simp [hms])]
  rfl
theorem y03 {v : Int} {t : Trust} (hv : inR v = true) (ht : valid t = true) (l : List Message) (hl : l.length < 1152921504606846976) (hm : ∀ m ∈ l, msgB m = true /\ m.Node ≠ v) : z5q v t l = some (viewC v t l) := by
 apply y93;exact qs8 hv ht l hl hm l 0 _ _ rfl rfl
theorem qr9 {v : Int} {t : Trust} (hv : inR v = true) (ht : valid t = true) (l : List Message) (hl : l.length < 1152921504606846976) (hm : ∀ m ∈ l, msgB m = true /\ m.Node ≠ v) : ∀ (suf : List Message) (i : Nat) (ms : List Member) (a17 : List Member), l.drop i = suf -> ms.length = 10 ->
  z4q v l ((l.length : Nat) : Int) (i : Int) t.Threshold t.Nodes t.Inner a17 ms = some ⟨(suf.foldl seeM ms).set v.toNat ⟨true, t⟩⟩
 | [], i, ms, a17, h, hms => by
  obtain ⟨h0, h10⟩ := q86 hv;apply y1v;rw [q0g h, cF, q0f h0, cT, q04 (by omega), cT, q0u (y := ms[v.toNat]'(by omega)) h0 (by simp), q3k (y := ms[v.toNat]'(by omega)) (by simp), Trust.etaM, qcn _ (q2c ht), bS, q97, ht, cT,
   q0u (y := ⟨false, ⟨0, [], []⟩⟩) h0 (by rw [List.getElem?_set_self (by omega)]), q3k (y := ⟨false, ⟨0, [], []⟩⟩) (by rw [List.getElem?_set_self (by omega)]), List.set_set]
  rfl
 | m :: suf, i, ms, a17, h, hms => by
  have hlt := q0b h;obtain ⟨g1, g2⟩ := hm m (List.mem_of_mem_drop (i := i) (by rw [h]; simp));obtain ⟨k1, _, k3, _⟩ := q1x.1 g1;obtain ⟨h0, h10⟩ := q86 k1;apply y1v;rw [q05 h, cT, q03 h, qdp (q11 g1), bS, g1, cT, Trust.etaM,
   q0u (y := ms[m.Node.toNat]'(by omega)) h0 (by simp), q3k (y := ms[m.Node.toNat]'(by omega)) (by simp), q00 (by omega), qr9 hv ht l hl hm suf (i + 1) _ a17 (q02 h) (by simp [hms])]
  rfl
theorem qrc {v : Int} {t : Trust} (hv : inR v = true) (ht : valid t = true) (l : List Message) (hl : l.length < 1152921504606846976) (hm : ∀ m ∈ l, msgB m = true /\ m.Node ≠ v) : z65 v t l = some (viewC v t l) := by
 apply y9y;exact qr9 hv ht l hl hm l 0 _ _ rfl rfl
def who (p : Message -> Bool) (l : List Message) : Nat := l.foldl (fun s m => if p m then s ||| bit m.Node else s) 0
def whoF (p : Message -> Bool) (s : Nat) (l : List Message) : Nat := l.foldl (fun s m => if p m then s ||| bit m.Node else s) s
def votes (l : List Message) (x : Claim) : Nat := who (fun m => decide (x ∈ m.Votes)) l
def q19 (l : List Message) (x : Claim) : Nat := who (fun m => decide (x ∈ m.Accepts)) l
theorem q8t (p : Message -> Bool) (s : Nat) (m : Message) (l : List Message) : whoF p s (m :: l) = whoF p (if p m then s ||| bit m.Node else s) l := rfl
theorem qpq (p : Message -> Bool) : ∀ (l : List Message) (s : Nat), s < 1024 -> (∀ m ∈ l, inR m.Node = true) -> whoF p s l < 1024
 | [], s, h, _ => h
 | m :: l, s, h, hm => by
  rw [q8t];refine qpq p l _ ?_ fun m hm' => hm m (by simp [hm'])
  split
  .exact or_lt h (qd7 (hm m (by simp)))
  .exact h
theorem shlOr {s : Nat} {k : Int} (hs : s < 1024) (h : inR k = true) : orI .i64 (s : Int) (shlI .i64 1 k) = ((s ||| bit k : Nat) : Int) := by
 have := qd7 h;rw [ql3 h, q6f (by omega) (by omega)]
section
variable (l : List Message) (hl : l.length < 1152921504606846976) (hm : ∀ m ∈ l, msgB m = true) (x : Claim)
include hl hm
theorem qgi : ∀ (suf : List Message) (i s : Nat), l.drop i = suf -> s < 1024 -> z16 (s : Int) l ((l.length : Nat) : Int) (i : Int) x.Topic x.Value = some ((whoF (fun m => decide (x ∈ m.Votes)) s suf : Nat) : Int)
 | [], i, s, h, hs => by
  apply y2z;rw [q0g h]; rfl
 | m :: suf, i, s, h, hs => by
  have hlt := q0b h;have g1 := hm m (List.mem_of_mem_drop (i := i) (by rw [h]; simp));obtain ⟨k1, _⟩ := q1x.1 g1;have hf : z5i m = some m.Votes := y5y _ _ rfl;have hsm := (q11 g1).votes;apply y2z;rw [q05 h, cT, q03 h, qef (q11 g1), bS, g1, cT, hf, bS, show Claim.mk x.Topic x.Value = x from rfl, qhr _ (by omega), bS, q00 (by omega), q8t, q1j (q86 k1).1, shlOr hs k1];by_cases hx : x ∈ m.Votes
  .simp only [hx, decide_true, cT, if_true];exact qgi suf (i + 1) _ (q02 h) (or_lt hs (qd7 k1))
  .simp only [hx, decide_false, cF, fT, if_false];exact qgi suf (i + 1) _ (q02 h) hs
theorem qva : z63 l x = some ((votes l x : Nat) : Int) := by
 apply ya5;have h : z1z l x = some ((votes l x : Nat) : Int) := y96 _ _ _ (qgi l hl hm x l 0 0 rfl (by decide));rw [h]; rfl
theorem qkz : ∀ (suf : List Message) (i s : Nat), l.drop i = suf -> s < 1024 -> z0w (s : Int) l ((l.length : Nat) : Int) (i : Int) x.Topic x.Value = some ((whoF (fun m => decide (x ∈ m.Accepts)) s suf : Nat) : Int)
 | [], i, s, h, hs => by
  apply y28;rw [q0g h]; rfl
 | m :: suf, i, s, h, hs => by
  have hlt := q0b h;have g1 := hm m (List.mem_of_mem_drop (i := i) (by rw [h]; simp));obtain ⟨k1, _⟩ := q1x.1 g1;have hf : z4f m = some m.Accepts := y5p _ _ rfl;have hsm := (q11 g1).accs;apply y28;rw [q05 h, cT, q03 h, qef (q11 g1), bS, g1, cT, hf, bS, show Claim.mk x.Topic x.Value = x from rfl, qhr _ (by omega), bS, q00 (by omega), q8t, q1j (q86 k1).1, shlOr hs k1];by_cases hx : x ∈ m.Accepts
  .simp only [hx, decide_true, cT, if_true];exact qkz suf (i + 1) _ (q02 h) (or_lt hs (qd7 k1))
  .simp only [hx, decide_false, cF, fT, if_false];exact qkz suf (i + 1) _ (q02 h) hs
theorem qsi : z40 l x = some ((q19 l x : Nat) : Int) := by
 apply y6y;have h : z1w l x = some ((q19 l x : Nat) : Int) := yao _ _ _ (qkz l hl hm x l 0 0 rfl (by decide));rw [h]; rfl
theorem qio : ∀ (suf : List Message) (i s : Nat), l.drop i = suf -> s < 1024 -> z3i (s : Int) l ((l.length : Nat) : Int) (i : Int) x.Topic x.Value = some ((whoF (fun m => decide (x ∈ m.Votes)) s suf : Nat) : Int)
 | [], i, s, h, hs => by
  apply y1s;rw [q0g h]; rfl
 | m :: suf, i, s, h, hs => by
  have hlt := q0b h;have g1 := hm m (List.mem_of_mem_drop (i := i) (by rw [h]; simp));obtain ⟨k1, _⟩ := q1x.1 g1;have hsm := (q11 g1).votes;apply y1s;rw [q05 h, cT, q03 h, qdp (q11 g1), bS, g1, cT, show Claim.mk x.Topic x.Value = x from rfl, qbg _ (by omega), bS, q00 (by omega), q8t, q1j (q86 k1).1, shlOr hs k1];by_cases hx : x ∈ m.Votes
  .simp only [hx, decide_true, cT, if_true];exact qio suf (i + 1) _ (q02 h) (or_lt hs (qd7 k1))
  .simp only [hx, decide_false, cF, fT, if_false];exact qio suf (i + 1) _ (q02 h) hs
theorem quw : z7d l x = some ((votes l x : Nat) : Int) := ya6 _ _ _ (qio l hl hm x l 0 0 rfl (by decide))
theorem ql1 : ∀ (suf : List Message) (i s : Nat), l.drop i = suf -> s < 1024 -> z2f (s : Int) l ((l.length : Nat) : Int) (i : Int) x.Topic x.Value = some ((whoF (fun m => decide (x ∈ m.Accepts)) s suf : Nat) : Int)
 | [], i, s, h, hs => by
  apply y1p;rw [q0g h]; rfl
 | m :: suf, i, s, h, hs => by
  have hlt := q0b h;have g1 := hm m (List.mem_of_mem_drop (i := i) (by rw [h]; simp));obtain ⟨k1, _⟩ := q1x.1 g1;have hsm := (q11 g1).accs;apply y1p;rw [q05 h, cT, q03 h, qdp (q11 g1), bS, g1, cT, show Claim.mk x.Topic x.Value = x from rfl, qbg _ (by omega), bS, q00 (by omega), q8t, q1j (q86 k1).1, shlOr hs k1];by_cases hx : x ∈ m.Accepts
  .simp only [hx, decide_true, cT, if_true];exact ql1 suf (i + 1) _ (q02 h) (or_lt hs (qd7 k1))
  .simp only [hx, decide_false, cF, fT, if_false];exact ql1 suf (i + 1) _ (q02 h) hs
theorem qrp : z5s l x = some ((q19 l x : Nat) : Int) := y5k _ _ _ (ql1 l hl hm x l 0 0 rfl (by decide))
end
theorem qsy {l : List Message} (hm : ∀ m ∈ l, msgB m = true) (x : Claim) : votes l x < 1024 := qpq _ l 0 (by decide) fun m h => (q1x.1 (hm m h)).1
theorem q7r {l : List Message} (hm : ∀ m ∈ l, msgB m = true) (x : Claim) : q19 l x < 1024 := qpq _ l 0 (by decide) fun m h => (q1x.1 (hm m h)).1
def accB (c : Config) (v : Nat) (vs ac : Nat) : Bool := blk c v ac || (q62 c (vs ||| ac)).testBit v
def confB (c : Config) (v : Nat) (ac : Nat) : Bool := (q62 c ac).testBit v
section
variable {c : Config} (hc : q4t c) {vs ac : Nat} (hv : vs < 1024) (ha : ac < 1024) {v : Nat} (hn : v < 10)
include hc ha hn
theorem qzl : z43 c (v : Int) (ac : Int) = some (confB c v ac) := by
 apply y8h;rw [qfq ha hc, bS, q2b (q7y c ha), qe5 hn]; rfl
theorem y06 : z5t c (v : Int) (ac : Int) = some (confB c v ac) := by
 apply yag;rw [qim ha hc, bS, q26 (q7y c ha), qe5 hn]; rfl
include hv
theorem y0c : z4j c (v : Int) (vs : Int) (ac : Int) = some (accB c v vs ac) := by
 apply y8v;rw [q2x hv, q2x ha, qtq hc ha, q6f (by omega) (by omega), qfq (or_lt hv ha) hc];simp only [bS, q2b (q7y c (or_lt hv ha)), qe5 hn, accB];cases blk c v ac <;> rfl
theorem y04 : z61 c (v : Int) (vs : Int) (ac : Int) = some (accB c v vs ac) := by
 apply y61;rw [q2d hv, q2d ha, qqg hc ha, q6f (by omega) (by omega), qim (or_lt hv ha) hc];simp only [bS, q26 (q7y c (or_lt hv ha)), qe5 hn, accB];cases blk c v ac <;> rfl
end
theorem qcw {t : Member} : ∀ (l : List Message) (ms : List Member), t ∈ l.foldl seeM ms -> t ∈ ms \/ ∃ m ∈ l, t = ⟨true, m.Trust⟩
 | [], ms, h => .inl h
 | m :: l, ms, h => by
  rcases qcw l _ h with h | ⟨m', h1, h2⟩
  .rcases List.mem_or_eq_of_mem_set h with h | h
   .exact .inl h
   .exact .inr ⟨m, by simp, h⟩
  .exact .inr ⟨m', by simp [h1], h2⟩
theorem qdc : ∀ (l : List Message) (ms : List Member), (l.foldl seeM ms).length = ms.length
 | [], _ => rfl
 | m :: l, ms => by rw [List.foldl_cons, qdc l]; simp [seeM]
theorem qpg {v : Int} {t : Trust} (ht : valid t = true) {l : List Message} (hm : ∀ m ∈ l, msgB m = true) : q4t (viewC v t l) := by
 refine ⟨by simp [viewC, qdc], fun m h => ?_⟩;rcases List.mem_or_eq_of_mem_set h with h | h
 .rcases qcw l _ h with h | ⟨m', h1, h2⟩
  .rw [List.eq_of_mem_replicate h]; simp [Small, size, sizes]
  .rw [h2]; exact (q11 (hm m' h1)).tr
 .rw [h]; exact q2c ht
def say (v : Voter) : Message := ⟨v.Node, v.Seq, v.Trust, v.Votes, v.Accepts⟩
def q2o (n : Int) : Option Int -> List Message -> Bool
 | _, [] => true
 | none, m :: r => msgB m && (!decide (m.Node = n) && q2o n (some m.Node) r)
 | some q, m :: r => msgB m && (!decide (m.Node = n) && (decide (q < m.Node) && q2o n (some m.Node) r))
structure SmallV (v : Voter) : Prop where
 tr : Small v.Trust
 votes : v.Votes.length < 1000000
 accs : v.Accepts.length < 1000000
 confs : v.Confirms.length < 1000000
 heard : v.Heard.length < 1000000
 msgs : ∀ m ∈ v.Heard, SmallM m
def q2e (v : Voter) : Bool := inR v.Node && (decide (1 <= v.Seq) && (decide (v.Seq <= 1000000) && (valid v.Trust && (plainC v.Votes && (plainC v.Accepts && (plainC v.Confirms && (consC v.Votes && (consC v.Accepts && (v.Confirms.all (fun x => decide (x ∈ v.Accepts)) && q2o v.Node none v.Heard)))))))))
theorem q2m {n : Int} : ∀ {l : List Message} {q : Option Int}, q2o n q l = true ↔ (∀ m ∈ l, msgB m = true /\ m.Node ≠ n) /\ (∀ k, q = some k -> ∀ m ∈ l, k < m.Node) /\ l.Pairwise (fun a b => a.Node < b.Node)
 | [], q => by cases q <;> simp [q2o]
 | m :: r, q => by
  have ih := q2m (n := n) (l := r) (q := some m.Node);have h1 : q2o n q (m :: r) = true ↔ msgB m = true /\ m.Node ≠ n /\ (∀ k, q = some k -> k < m.Node) /\ q2o n (some m.Node) r = true := by
   cases q <;> simp [q2o]
  rw [h1, ih, List.pairwise_cons];constructor
  .rintro ⟨g1, g2, g3, g4, g5, g6⟩;refine ⟨fun x hx => ?_, fun k hk x hx => ?_, g5 _ rfl, g6⟩
   .rcases List.mem_cons.1 hx with e | hx
    .subst e; exact ⟨g1, g2⟩
    .exact g4 x hx
   .rcases List.mem_cons.1 hx with e | hx
    .subst e; exact g3 k hk
    .exact Int.lt_trans (g3 k hk) (g5 _ rfl x hx)
  .rintro ⟨g1, g2, g3, g4⟩;exact ⟨(g1 m (by simp)).1, (g1 m (by simp)).2, fun k hk => g2 k hk m (by simp), fun x hx => g1 x (by simp [hx]), fun k hk x hx => by cases hk; exact g3 x hx, g4⟩
theorem qnj {n : Int} {l : List Message} (h : q2o n none l = true) : l.length <= 10 := by
 obtain ⟨h1, _, h3⟩ := q2m.1 h;have := qup (m := 10) (l := l.map (·.Node)) (by decide) (fun k hk => by
  obtain ⟨m, hm, rfl⟩ := List.mem_map.1 hk;have := (q1x.1 (h1 m hm).1).1;simpa [inR] using this) (List.pairwise_map.2 h3)
 simp at this; omega
theorem qvq (l : List Claim) (v : Voter) (hl : l.length < 1152921504606846976) (ha : v.Accepts.length < 1000000) : ∀ (suf : List Claim) (i : Nat), l.drop i = suf -> ∃ r : Int, z0s l ((l.length : Nat) : Int) (i : Int) v.Node v.Seq v.Trust.Threshold v.Trust.Nodes v.Trust.Inner v.Votes v.Accepts v.Confirms v.Heard = some (r, v.Node, v.Seq, v.Trust.Threshold, v.Trust.Nodes, v.Trust.Inner, v.Votes, v.Accepts, v.Confirms, v.Heard) /\ leB 0 r = !(suf.all fun x => decide (x ∈ v.Accepts))
 | [], i, h => by
  refine ⟨-1, qxq _ _ _ _ _ _ _ _ _ _ _ _ _ ?_, by simp [leB]⟩;rw [q0g h]; rfl
 | y :: suf, i, h => by
  have hlt := q0b h;obtain ⟨r, h1, h2⟩ := qvq l v hl ha suf (i + 1) (q02 h);have hf : z6h y v.Node v.Seq v.Trust.Threshold v.Trust.Nodes v.Trust.Inner v.Votes v.Accepts v.Confirms v.Heard = some (!decide (y ∈ v.Accepts), v.Node, v.Seq, v.Trust.Threshold, v.Trust.Nodes, v.Trust.Inner, v.Votes, v.Accepts, v.Confirms, v.Heard) := by
   apply y9d;rw [qhr _ (by omega)]; rfl
  by_cases hy : y ∈ v.Accepts
  .refine ⟨r, qxq _ _ _ _ _ _ _ _ _ _ _ _ _ ?_, by rw [h2]; simp [hy]⟩;rw [q05 h, cT, q03 h, hf, bS, q00 (by omega)];simp only [hy, decide_true, nT, cF];exact h1
  .refine ⟨i, qxq _ _ _ _ _ _ _ _ _ _ _ _ _ ?_, by simp [hy, leB]⟩;rw [q05 h, cT, q03 h, hf, bS];simp only [hy, decide_false, Bool.not_false, cT]
theorem y1m (v : Voter) (hl : v.Heard.length < 1000000) (hm : ∀ m ∈ v.Heard, SmallM m) : ∀ (suf : List Message) (i : Nat) (z : Message), v.Heard[i]? = some z -> v.Heard.drop (i + 1) = suf ->
  z26 v.Heard ((v.Heard.length : Nat) : Int) ((i + 1 : Nat) : Int) v.Node v.Seq v.Trust.Threshold v.Trust.Nodes v.Trust.Inner v.Votes v.Accepts v.Confirms v.Heard = some (q2o v.Node (some z.Node) suf)
 | [], i, z, hz, h => by
  apply qrv;rw [q0g h]; rfl
 | y :: suf, i, z, hz, h => by
  have hlt := q0b h;apply qrv;rw [q05 h, cT, q03 h, qef (hm y (List.mem_of_mem_drop (i := i + 1) (by rw [h]; simp))), bS, q04 (by omega), cT, q23 (by omega) (by omega), q0u (y := z) (by omega) (by rw [show (((i + 1 : Nat) : Int) - 1).toNat = i by omega]; exact hz), q00 (by omega),
   y1m v hl hm suf (i + 1) y (by have := congrArg (·[0]?) h; simpa using this) (q02 h)]
  rw [q2o, show leB y.Node z.Node = !decide (z.Node < y.Node) by by_cases h2 : z.Node < y.Node <;> simp [leB, h2] <;> omega];simp only [eqB];cases msgB y <;> cases decide (y.Node = v.Node) <;> cases decide (z.Node < y.Node) <;> rfl
theorem y99 (v : Voter) (hl : v.Heard.length < 1000000) (hm : ∀ m ∈ v.Heard, SmallM m) : z26 v.Heard ((v.Heard.length : Nat) : Int) 0 v.Node v.Seq v.Trust.Threshold v.Trust.Nodes v.Trust.Inner v.Votes v.Accepts v.Confirms v.Heard = some (q2o v.Node none v.Heard) := by
 cases hh : v.Heard with
 | nil =>
  apply qrv;simp [ltB, q2o]
 | cons y r =>
  have h1 := y1m v hl hm r 0 y (by rw [hh]; rfl) (by rw [hh]; rfl);rw [hh] at h1 hm;apply qrv;rw [q04 (by rw [List.length_cons]; omega), cT, q0u (y := y) (by omega) rfl, qef (hm y (by simp)), bS, q01 (by omega), cF, show addI .i64 0 1 = ((0 + 1 : Nat) : Int) from rfl, h1, q2o];by_cases h1 : y.Node = v.Node
  all_goals cases msgB y <;> simp [h1, eqB]
theorem qa4 {v : Voter} (h : SmallV v) : z53 v = some (q2e v) := by
 obtain ⟨h1, h2, h3, h4, h5, h6⟩ := h;apply y5w;obtain ⟨r, g1, g2⟩ := qvq v.Confirms v (by omega) h3 v.Confirms 0 rfl;have g3 : z1l v.Confirms v.Node v.Seq v.Trust.Threshold v.Trust.Nodes v.Trust.Inner v.Votes v.Accepts v.Confirms v.Heard = _ := y7r _ _ _ _ _ _ _ _ _ _ _ g1;have g4 : z1k v.Confirms v.Node v.Seq v.Trust.Threshold v.Trust.Nodes v.Trust.Inner v.Votes v.Accepts v.Confirms v.Heard = some (!(v.Confirms.all fun x => decide (x ∈ v.Accepts)), v.Node, v.Seq, v.Trust.Threshold, v.Trust.Nodes, v.Trust.Inner, v.Votes, v.Accepts, v.Confirms, v.Heard) := by
  apply y9a;rw [g3, bS, g2]
 rw [qcm _ h1, q95 _ (by omega), q95 _ (by omega), q95 _ (by omega), g4];simp only [bS, y99 v h5 h6, qo8];unfold q2e inR ltB leB;by_cases e1 : v.Node < 0
 .have : ¬ 0 <= v.Node := by omega
  simp [e1, this]
 have e1' : 0 <= v.Node := by omega
 by_cases e2 : 10 <= v.Node
 .have : ¬ v.Node < 10 := by omega
  simp [e1, e2, this]
 have e2' : v.Node < 10 := by omega
 by_cases e3 : v.Seq < 1
 .have : ¬ 1 <= v.Seq := by omega
  simp [e1, e2, e3, this]
 have e3' : 1 <= v.Seq := by omega
 by_cases e4 : 1000000 < v.Seq
 .have : ¬ v.Seq <= 1000000 := by omega
  simp [e1, e2, e3, e4, this]
 have e4' : v.Seq <= 1000000 := by omega
 simp only [e1, e1', e2, e2', e3, e3', e4, e4', decide_false, decide_true, cF, tA', Bool.and_true];cases valid v.Trust with
 | false => simp
 | true =>
  cases hp1 : plainC v.Votes with
  | false => simp
  | true =>
   cases hp2 : plainC v.Accepts with
   | false => simp
   | true =>
    cases plainC v.Confirms with
    | false => simp
    | true =>
     rw [qlz _ (by omega) (q0w.1 hp1).1, qlz _ (by omega) (q0w.1 hp2).1];simp only [bS];cases consC v.Votes <;> cases consC v.Accepts <;> cases v.Confirms.all (fun x => decide (x ∈ v.Accepts)) <;> rfl
theorem y19 (v : Voter) (hl : v.Heard.length < 1000000) (hm : ∀ m ∈ v.Heard, SmallM m) : ∀ (suf : List Message) (i : Nat) (z : Message), v.Heard[i]? = some z -> v.Heard.drop (i + 1) = suf ->
  z2i v.Heard ((v.Heard.length : Nat) : Int) ((i + 1 : Nat) : Int) v.Node v.Seq v.Trust.Threshold v.Trust.Nodes v.Trust.Inner v.Votes v.Accepts v.Confirms v.Heard = some (q2o v.Node (some z.Node) suf)
 | [], i, z, hz, h => by
  apply qt3;rw [q0g h]; rfl
 | y :: suf, i, z, hz, h => by
  have hlt := q0b h;apply qt3;rw [q05 h, cT, q03 h, qdp (hm y (List.mem_of_mem_drop (i := i + 1) (by rw [h]; simp))), bS, q04 (by omega), cT, q23 (by omega) (by omega), q0u (y := z) (by omega) (by rw [show (((i + 1 : Nat) : Int) - 1).toNat = i by omega]; exact hz), q00 (by omega),
   y19 v hl hm suf (i + 1) y (by have := congrArg (·[0]?) h; simpa using this) (q02 h)]
  rw [q2o, show leB y.Node z.Node = !decide (z.Node < y.Node) by by_cases h2 : z.Node < y.Node <;> simp [leB, h2] <;> omega];simp only [eqB];cases msgB y <;> cases decide (y.Node = v.Node) <;> cases decide (z.Node < y.Node) <;> rfl
theorem y5s (v : Voter) (hl : v.Heard.length < 1000000) (hm : ∀ m ∈ v.Heard, SmallM m) : z2i v.Heard ((v.Heard.length : Nat) : Int) 0 v.Node v.Seq v.Trust.Threshold v.Trust.Nodes v.Trust.Inner v.Votes v.Accepts v.Confirms v.Heard = some (q2o v.Node none v.Heard) := by
 cases hh : v.Heard with
 | nil =>
  apply qt3;simp [ltB, q2o]
 | cons y r =>
  have h1 := y19 v hl hm r 0 y (by rw [hh]; rfl) (by rw [hh]; rfl);rw [hh] at h1 hm;apply qt3;rw [q04 (by rw [List.length_cons]; omega), cT, q0u (y := y) (by omega) rfl, qdp (hm y (by simp)), bS, q01 (by omega), cF, show addI .i64 0 1 = ((0 + 1 : Nat) : Int) from rfl, h1, q2o];by_cases h1 : y.Node = v.Node
  all_goals cases msgB y <;> simp [h1, eqB]
theorem y1u (v : Voter) (hl : v.Heard.length < 1000000) (hm : ∀ m ∈ v.Heard, SmallM m) (ha : v.Accepts.length < 1000000) (l : List Claim) (hll : l.length < 1152921504606846976) : ∀ (suf : List Claim) (i : Nat), l.drop i = suf ->
  z42 l ((l.length : Nat) : Int) (i : Int) v.Node v.Seq v.Trust.Threshold v.Trust.Nodes v.Trust.Inner v.Votes v.Accepts v.Confirms v.Heard = some ((suf.all fun x => decide (x ∈ v.Accepts)) && q2o v.Node none v.Heard)
 | [], i, h => by
  apply y2u;rw [q0g h, cF, y5s v hl hm]; simp
 | y :: suf, i, h => by
  have hlt := q0b h;apply y2u;rw [q05 h, cT, q03 h, qbg _ (by omega), bS, q00 (by omega), y1u v hl hm ha l hll suf (i + 1) (q02 h)];by_cases hy : y ∈ v.Accepts <;> simp [hy]
theorem qa2 {v : Voter} (h : SmallV v) : z5l v = some (q2e v) := by
 obtain ⟨h1, h2, h3, h4, h5, h6⟩ := h;apply y7o;have g1 : z42 v.Confirms ((v.Confirms.length : Nat) : Int) 0 v.Node v.Seq v.Trust.Threshold v.Trust.Nodes v.Trust.Inner v.Votes v.Accepts v.Confirms v.Heard = _ := y1u v h5 h6 h3 v.Confirms (by omega) v.Confirms 0 rfl;rw [qcn _ h1, q9e _ (by omega), q9e _ (by omega), q9e _ (by omega), qrj _ (by omega), qrj _ (by omega), g1];simp only [bS, qo8];unfold q2e inR ltB leB;by_cases e1 : v.Node < 0
 .have : ¬ 0 <= v.Node := by omega
  simp [e1, this]
 have e1' : 0 <= v.Node := by omega
 by_cases e2 : 10 <= v.Node
 .have : ¬ v.Node < 10 := by omega
  simp [e1, e2, this]
 have e2' : v.Node < 10 := by omega
 by_cases e3 : v.Seq < 1
 .have : ¬ 1 <= v.Seq := by omega
  simp [e1, e2, e3, this]
 have e3' : 1 <= v.Seq := by omega
 by_cases e4 : 1000000 < v.Seq
 .have : ¬ v.Seq <= 1000000 := by omega
  simp [e1, e2, e3, e4, this]
 have e4' : v.Seq <= 1000000 := by omega
 simp only [e1, e1', e2, e2', e3, e3', e4, e4', decide_false, decide_true, cF, tA', Bool.and_true];cases valid v.Trust <;> cases plainC v.Votes <;> cases plainC v.Accepts <;> cases plainC v.Confirms <;> cases consC v.Votes <;> cases consC v.Accepts <;> rfl
structure Ready (v : Voter) : Prop where
 node : inR v.Node = true
 seq : 1 <= v.Seq /\ v.Seq <= 1000000
 tr : valid v.Trust = true
 votes : plainC v.Votes = true
 accs : plainC v.Accepts = true
 confs : plainC v.Confirms = true
 cons : consC v.Accepts = true
 sub : ∀ x ∈ v.Confirms, x ∈ v.Accepts
 heard : q2o v.Node none v.Heard = true
theorem q15 {v : Voter} : q2e v = true ↔ Ready v /\ consC v.Votes = true := by
 simp only [q2e, aT, dT', List.all_eq_true];constructor
 .rintro ⟨h1, h2, h3, h4, h5, h6, h7, h8, h9, h10, h11⟩;exact ⟨⟨h1, ⟨h2, h3⟩, h4, h5, h6, h7, h9, h10, h11⟩, h8⟩
 .rintro ⟨⟨h1, ⟨h2, h3⟩, h4, h5, h6, h7, h9, h10, h11⟩, h8⟩;exact ⟨h1, h2, h3, h4, h5, h6, h7, h8, h9, h10, h11⟩
def allM (v : Voter) : List Message := v.Heard ++ [say v]
theorem Ready.msg {v : Voter} (h : Ready v) : ∀ m ∈ v.Heard, msgB m = true /\ m.Node ≠ v.Node := (q2m.1 h.heard).1
theorem Ready.say {v : Voter} (h : Ready v) : msgB (say v) = true := q1x.2 ⟨h.node, h.seq.1, h.tr, h.votes, h.accs⟩
theorem Ready.all {v : Voter} (h : Ready v) : ∀ m ∈ allM v, msgB m = true := fun m hm => by
 rcases List.mem_append.1 hm with hm | hm
 .exact (h.msg m hm).1
 .simp at hm; subst hm; exact h.say
theorem Ready.len {v : Voter} (h : Ready v) : (allM v).length <= 11 := by have := qnj h.heard; simp [allM]; omega
theorem Ready.hlen {v : Voter} (h : Ready v) : v.Heard.length <= 10 := qnj h.heard
theorem Ready.alen {v : Voter} (h : Ready v) : v.Accepts.length <= 128 := q3l h.accs
theorem Ready.vlen {v : Voter} (h : Ready v) : v.Votes.length <= 128 := q3l h.votes
theorem Ready.clen {v : Voter} (h : Ready v) : v.Confirms.length <= 128 := q3l h.confs
theorem Ready.small {v : Voter} (h : Ready v) : SmallV v := ⟨q2c h.tr, by have := h.vlen; omega, by have := h.alen; omega, by have := h.clen; omega, by have := h.hlen; omega, fun m hm => q11 (h.msg m hm).1⟩
theorem qh8 (v : Voter) : z5k v = some (say v) := y9m _ _ (by rw [Trust.etaM]; rfl)
theorem qxf (v : Voter) : z7f v = some (say v) := y70 _ _ (by rw [Trust.etaM]; rfl)
theorem q8j (m : Message) : Message.mk m.Node m.Seq (Trust.mk m.Trust.Threshold m.Trust.Nodes m.Trust.Inner) m.Votes m.Accepts = m := by rw [Trust.etaM]
theorem q0t (v : Voter) : Voter.mk v.Node v.Seq (Trust.mk v.Trust.Threshold v.Trust.Nodes v.Trust.Inner) v.Votes v.Accepts v.Confirms v.Heard = v := by rw [Trust.etaM]
theorem qlk {v : Voter} (hl : v.Heard.length < 1000000) : z6k v = some (allM v) := by
 apply y9c;rw [q0a (by simp [q07]; omega), qxf, bS, q8j, q0a (by simp [q07]; omega)]; rfl
theorem qh5 (l : List Message) (hl : l.length < 1000000) : z1u l = some ((), l) := ya2 _ _ (by rw [q0a (by simp [q07]; omega)]; rfl)
theorem q7j (l : List Claim) (hl : l.length < 1000000) : z1a l = some ((), l) := y2f _ _ (by rw [q0a (by simp [q07]; omega)]; rfl)
def q6d (l : List Message) : List Claim := l.flatMap fun m => m.Votes ++ m.Accepts
def known (v : Voter) : List Claim := q0j (q6d (allM v))
theorem qtn {m : Message} (h : msgB m = true) : ∀ x ∈ m.Votes ++ m.Accepts, vcl x = true := fun x hx => by
 obtain ⟨_, _, _, h1, h2⟩ := q1x.1 h;rcases List.mem_append.1 hx with hx | hx
 .exact (q0w.1 h1).1 x hx
 .exact (q0w.1 h2).1 x hx
theorem qnp (l : List Message) (hl : l.length <= 11) (hm : ∀ m ∈ l, msgB m = true) : ∀ (suf : List Message) (i : Nat) (acc : List Claim), i <= l.length -> l.drop i = suf -> acc.length <= 256 * i -> (∀ x ∈ acc, vcl x = true) -> z4c acc l ((l.length : Nat) : Int) (i : Int) = some (q0j (acc ++ q6d suf))
 | [], i, acc, hi, h, ha, hv => by
  apply y1d;rw [q0g h, cF, qjf acc (by omega) hv];simp [q6d]
 | m :: suf, i, acc, hi, h, ha, hv => by
  have hlt := q0b h;have g := hm m (List.mem_of_mem_drop (i := i) (by rw [h]; simp));obtain ⟨_, _, _, g1, g2⟩ := q1x.1 g;have := q3l g1;have := q3l g2;apply y1d;rw [q05 h, cT, q03 h, q0a (by simp [q07]; omega), q0a (by simp [q07]; omega), q00 (by omega), qnp l hl hm suf (i + 1) _ hlt (q02 h) (by simp; omega) (fun x hx => by
   rw [List.append_assoc] at hx;rcases List.mem_append.1 hx with hx | hx
   .exact hv x hx
   .exact qtn g x hx)]
  simp [q6d]
theorem qvd {v : Voter} (h : Ready v) : z6e (allM v) = some (known v) := by
 apply y72;have := qnp (allM v) h.len h.all (allM v) 0 [] (by omega) rfl (by simp) (by simp);exact this
theorem qbw (a b : List Claim) : q0j (q0j a ++ q0j b) = q0j (a ++ b) := by
 refine qjk (q1i _) (q1i _) fun x => ?_
 simp only [q1g, List.mem_append];constructor
 .rintro ⟨h1, h2 | h2⟩
  .exact ⟨h1, .inl h2.2⟩
  .exact ⟨h1, .inr h2.2⟩
 .rintro ⟨h1, h2 | h2⟩
  .exact ⟨h1, .inl ⟨h1, h2⟩⟩
  .exact ⟨h1, .inr ⟨h1, h2⟩⟩
theorem qnw (v : Voter) (l : List Message) (hl : l.length < 1000000) (hm : ∀ m ∈ l, msgB m = true) : ∀ (suf : List Message) (i : Nat) (acc : List Claim), l.drop i = suf ->
  z4v (q0j acc) l ((l.length : Nat) : Int) (i : Int) v.Node v.Seq v.Trust.Threshold v.Trust.Nodes v.Trust.Inner v.Votes v.Accepts v.Confirms v.Heard = some (q0j (acc ++ q6d suf))
 | [], i, acc, h => by
  apply y2n;rw [q0g h, cF]; simp [q6d]
 | m :: suf, i, acc, h => by
  have hlt := q0b h;have g := q11 (hm m (List.mem_of_mem_drop (i := i) (by rw [h]; simp)));have h1 := g.votes;have h2 := g.accs;have h3 := q2t acc;have h4 := q2t (m.Votes ++ m.Accepts);apply y2n;rw [q05 h, cT, q03 h, q96 _ _ (by omega) (by omega), bS, q96 _ _ (by omega) (by omega), bS, qbw, q00 (by omega), qnw v l hl hm suf (i + 1) _ (q02 h)];simp [q6d]
theorem qwf {v : Voter} (h : Ready v) : z6s v = some (known v) := by
 have hlen := h.len;apply y8j;rw [qlk (by have := h.hlen; omega), bS];have hne : allM v ≠ [] := by simp [allM]
 obtain ⟨m, suf, hms⟩ := List.exists_cons_of_ne_nil hne;have hd : (allM v).drop 0 = m :: suf := by rw [List.drop_zero, hms]
 have g := q11 (h.all m (by rw [hms]; simp));have h1 := g.votes;have h2 := g.accs;have h4 := q2t (m.Votes ++ m.Accepts);apply y7b;have l0 : ltB 0 (((allM v).length : Nat) : Int) = true := q05 (i := 0) hd;have n0 : ∀ k : Message -> Option (List Claim), nth (allM v) 0 k = k m := fun k => q03 (i := 0) hd k
 rw [l0, cT, n0, q96 _ _ (by omega) (by omega), bS, q96 _ _ (by simp) (by omega), bS, show ([] : List Claim) ++ q0j (m.Votes ++ m.Accepts) = q0j [] ++ q0j (m.Votes ++ m.Accepts) from rfl, qbw, show addI .i64 0 1 = ((1 : Nat) : Int) from rfl, qnw v (allM v) (by omega) h.all suf 1 _ (by rw [hms]; rfl)];rw [known, hms];simp [q6d]
def viewV (v : Voter) : Config := viewC v.Node v.Trust v.Heard
def canB (v : Voter) (x : Claim) : Bool := !decide (x ∈ v.Accepts) && (decide (∀ y ∈ v.Accepts, ¬ Contra x y) && accB (viewV v) v.Node.toNat (votes (allM v) x) (q19 (allM v) x))
def nextV (v : Voter) : Option Claim := (known v).find? (canB v)
theorem Ready.view {v : Voter} (h : Ready v) : q4t (viewV v) := qpg h.tr fun m hm => (h.msg m hm).1
theorem Ready.node' {v : Voter} (h : Ready v) : v.Node.toNat < 10 /\ ((v.Node.toNat : Nat) : Int) = v.Node := by have := q86 h.node; omega
theorem q7e {v : Voter} {x : Claim} (h : x ∈ known v) : vcl x = true := (q1g.1 h).1
theorem qdt {A : List Claim} (h : consC A = true) (x : Claim) : consC (A ++ [x]) = decide (∀ y ∈ A, ¬ Contra x y) := by
 rw [Bool.eq_iff_iff, q4u, dT'];rw [q4u] at h;constructor
 .intro g y hy;exact g x (by simp) y (by simp [hy])
 .intro g a ha b hb;rcases List.mem_append.1 ha with ha' | ha' <;> rcases List.mem_append.1 hb with hb' | hb'
  .exact h a ha' b hb'
  .simp at hb'; subst hb'; exact fun hc => g a ha' hc.symm
  .simp at ha'; subst ha'; exact g b hb'
  .simp at ha' hb'; subst ha'; subst hb'; exact fun hc => hc.2 rfl
theorem qn2 {v : Voter} (h : Ready v) (l : List Claim) (hl : l.length <= 128) (hv : ∀ x ∈ l, vcl x = true) : ∀ (suf : List Claim) (i : Nat), l.drop i = suf ->
  z3h (allM v) l ((l.length : Nat) : Int) (i : Int) v.Node v.Seq v.Trust.Threshold v.Trust.Nodes v.Trust.Inner v.Votes v.Accepts v.Confirms v.Heard (viewV v).Members 0 0 = some (match suf.find? (canB v) with | some x => (x, true) | none => (⟨0, 0⟩, false))
 | [], i, g => by
  apply y0x;rw [q0g g]; rfl
 | y :: suf, i, g => by
  have hlt := q0b g;have hlen := h.len;have halen := h.alen;have hy := hv y (List.mem_of_mem_drop (i := i) (by rw [g]; simp));have ih := qn2 h l hl hv suf (i + 1) (q02 g);obtain ⟨n1, n2⟩ := h.node';have hvc : ∀ x ∈ v.Accepts ++ [y], vcl x = true := fun x hx => by
   rcases List.mem_append.1 hx with hx | hx
   .exact (q0w.1 h.accs).1 x hx
   .simp at hx; subst hx; exact hy
  have hacc : z4j ⟨(viewV v).Members⟩ v.Node ((votes (allM v) y : Nat) : Int) ((q19 (allM v) y : Nat) : Int) = some (accB (viewV v) v.Node.toNat (votes (allM v) y) (q19 (allM v) y)) := by
   have := y0c h.view (qsy h.all y) (q7r h.all y) n1;rw [n2] at this; exact this
  apply y0x;rw [q05 g, cT, q03 g, qhr _ (by omega), bS, q7j _ (by omega), bS, q0a (by simp [q07]; omega), qlz _ (by simp; omega) hvc, bS, qdt h.cons, qva _ (by omega) h.all, bS, qsi _ (by omega) h.all, bS, hacc, bS, q00 (by omega), ih, List.find?_cons];simp only [canB];by_cases h1 : y ∈ v.Accepts
  .simp only [h1, decide_true, cT, nT, Bool.false_and]
  .by_cases h2 : ∀ z ∈ v.Accepts, ¬ Contra y z
   .simp only [h1, decide_false, cF, Bool.not_false, tA', decide_eq_true h2, nT];cases accB (viewV v) v.Node.toNat (votes (allM v) y) (q19 (allM v) y) <;> rfl
   .simp only [h1, decide_false, cF, Bool.not_false, tA', decide_eq_false h2, Bool.not_false, cT, Bool.false_and]
theorem qn9 {v : Voter} (h : Ready v) : z6a v (viewV v) = some (match nextV v with | some x => (x, true) | none => (⟨0, 0⟩, false)) := by
 apply y8o;have hh := h.hlen;rw [qh5 _ (by omega), bS, qh8, bS, q8j, q0a (by simp [q07]; omega)];have : z6e (v.Heard ++ [say v]) = _ := qvd h;rw [this, bS];exact qn2 h (known v) (q2t _) (fun x hx => q7e hx) (known v) 0 rfl
theorem qvx {v : Voter} (h : Ready v) (x : Claim) : ∀ (suf : List Claim) (i : Nat), v.Accepts.drop i = suf -> z55 v.Accepts ((v.Accepts.length : Nat) : Int) (i : Int) v.Node v.Seq v.Trust.Threshold v.Trust.Nodes v.Trust.Inner v.Votes v.Accepts v.Confirms v.Heard x.Topic x.Value =
  some (decide (∀ y ∈ suf, ¬ Contra x y) && accB (viewV v) v.Node.toNat (votes (allM v) x) (q19 (allM v) x))
 | [], i, g => by
  have hlen := h.len;have hh := h.hlen;obtain ⟨n1, n2⟩ := h.node';have hacc : z61 (viewV v) v.Node ((votes (allM v) x : Nat) : Int) ((q19 (allM v) x : Nat) : Int) = some (accB (viewV v) v.Node.toNat (votes (allM v) x) (q19 (allM v) x)) := by
   have := y04 h.view (qsy h.all x) (q7r h.all x) n1;rw [n2] at this; exact this
  have hv : z65 v.Node v.Trust v.Heard = some (viewV v) := qrc h.node h.tr v.Heard (by omega) h.msg;apply y2w;rw [q0g g, cF, q0t, qlk (by omega), bS, Trust.etaM, hv, bS, show Claim.mk x.Topic x.Value = x from rfl, quw _ (by omega) h.all, bS, qrp _ (by omega) h.all, bS, hacc];simp
 | y :: suf, i, g => by
  have hlt := q0b g;have := h.alen;apply y2w;rw [q05 g, cT, q03 g, show Claim.mk x.Topic x.Value = x from rfl, qdq, bS, q00 (by omega), qvx h x suf (i + 1) (q02 g)];by_cases hc : Contra x y <;> simp [hc]
theorem y3y {v : Voter} (h : Ready v) (x : Claim) : z7j v x = some (canB v x) := by
 have := h.alen;apply y9w;rw [qbg _ (by omega), bS, canB];have h1 : z55 v.Accepts ((v.Accepts.length : Nat) : Int) 0 v.Node v.Seq v.Trust.Threshold v.Trust.Nodes v.Trust.Inner v.Votes v.Accepts v.Confirms v.Heard x.Topic x.Value = _ := qvx h x v.Accepts 0 rfl;rw [h1];cases decide (x ∈ v.Accepts) <;> rfl
def withA (v : Voter) (x : Claim) : Voter := { v with Accepts := q0j (v.Accepts ++ [x]) }
def q24 : Nat -> Voter -> Voter
 | 0, v => v
 | n + 1, v => match nextV v with
  | none => v
  | some x => q24 n (withA v x)
theorem qcz {v : Voter} {x : Claim} (h : nextV v = some x) : x ∈ known v /\ x ∉ v.Accepts /\ (∀ y ∈ v.Accepts, ¬ Contra x y) /\ accB (viewV v) v.Node.toNat (votes (allM v) x) (q19 (allM v) x) = true := by
 have h1 := List.mem_of_find?_eq_some h;have h2 := List.find?_some h;simp only [canB, aT, Bool.not_eq_true', dT', decide_eq_false_iff_not] at h2;exact ⟨h1, h2⟩
theorem qi3 {A : List Claim} {x y : Claim} (hA : ∀ z ∈ A, vcl z = true) (hx : vcl x = true) : y ∈ q0j (A ++ [x]) ↔ y ∈ A \/ y = x := by
 rw [q1g, List.mem_append, List.mem_singleton];constructor
 .exact fun h => h.2
 .rintro (h | h)
  .exact ⟨hA y h, .inl h⟩
  .exact ⟨by rw [h]; exact hx, .inr h⟩
theorem Ready.avc {v : Voter} (h : Ready v) : ∀ z ∈ v.Accepts, vcl z = true := (q0w.1 h.accs).1
theorem Ready.withA {v : Voter} (h : Ready v) {x : Claim} (hx : vcl x = true) (hc : ∀ y ∈ v.Accepts, ¬ Contra x y) : Ready (withA v x) := by
 have hm := fun y => qi3 (y := y) h.avc hx
 refine ⟨h.node, h.seq, h.tr, h.votes, q1i _, h.confs, ?_, fun y hy => (hm y).2 (.inl (h.sub y hy)), h.heard⟩;have : consC (v.Accepts ++ [x]) = true := by rw [qdt h.cons, dT']; exact hc
 rw [q4u] at this ⊢;intro a ha b hb;exact this a (q1g.1 ha).2 b (q1g.1 hb).2
theorem qr0 {A : List Claim} {x : Claim} (hA : plainC A = true) (hx : vcl x = true) (hn : x ∉ A) : (q0j (A ++ [x])).length = A.length + 1 := by
 have hnd : ∀ {l : List Claim}, l.Pairwise ltc -> l.Nodup := fun h => List.Pairwise.imp (fun {a b} (hab : ltc a b) => fun (e : a = b) => q42 a (by rw [<- e] at hab; exact hab)) h
 have hp : (q0j (A ++ [x])).Perm (A ++ [x]) := (List.perm_ext_iff_of_nodup (hnd (qb2 _)) (by
  rw [List.nodup_append];exact ⟨hnd (q0w.1 hA).2, by simp, fun a ha b hb => by simp at hb; subst hb; exact fun e => hn (by rw [<- e]; exact ha)⟩)).2 fun y => by
   rw [qi3 (q0w.1 hA).1 hx]; simp
 rw [hp.length_eq]; simp
theorem q9d : ∀ (n : Nat) (v : Voter), Ready v -> 128 - v.Accepts.length < n -> Ready (q24 n v) /\ nextV (q24 n v) = none
 | 0, v, h, hn => by omega
 | n + 1, v, h, hn => by
  rw [q24];cases hx : nextV v with
  | none => exact ⟨h, hx⟩
  | some x =>
   obtain ⟨h1, h2, h3, _⟩ := qcz hx;have hv := q7e h1;have hr := h.withA hv h3;have hl := qr0 h.accs hv h2;have hal : (q0j (v.Accepts ++ [x])).length <= 128 := hr.alen;exact q9d n (withA v x) hr (by show 128 - (q0j (v.Accepts ++ [x])).length < n; omega)
theorem q9b : ∀ (n : Nat) (v : Voter), (q24 n v).Node = v.Node /\ (q24 n v).Seq = v.Seq /\ (q24 n v).Trust = v.Trust /\ (q24 n v).Votes = v.Votes /\ (q24 n v).Confirms = v.Confirms /\ (q24 n v).Heard = v.Heard
 | 0, v => ⟨rfl, rfl, rfl, rfl, rfl, rfl⟩
 | n + 1, v => by
  rw [q24];cases nextV v with
  | none => exact ⟨rfl, rfl, rfl, rfl, rfl, rfl⟩
  | some x => exact q9b n (withA v x)
def confC (v : Voter) (C : List Claim) (l : List Claim) : List Claim := l.foldl (fun C x => if confB (viewV v) v.Node.toNat (q19 (allM v) x) then q0j (C ++ [x]) else C) C
def finish (v : Voter) : Voter := { v with Confirms := confC v v.Confirms v.Accepts }
def q0k (v : Voter) : Voter := finish (q24 200 v)
theorem qi6 (v : Voter) : ∀ (l C : List Claim), plainC C = true -> plainC (confC v C l) = true
 | [], C, h => h
 | x :: l, C, h => by
  show plainC (confC v (if _ then _ else _) l) = true;refine qi6 v l _ ?_;split
  .exact q1i _
  .exact h
theorem qcu (v : Voter) {y : Claim} : ∀ (l C : List Claim), (∀ x ∈ C, vcl x = true) -> (∀ x ∈ l, vcl x = true) -> (y ∈ confC v C l ↔ y ∈ C \/ y ∈ l /\ confB (viewV v) v.Node.toNat (q19 (allM v) y) = true)
 | [], C, _, _ => by simp [confC]
 | x :: l, C, hC, hl => by
  show y ∈ confC v (if _ then _ else _) l ↔ _;have hx := hl x (by simp);have hl' : ∀ z ∈ l, vcl z = true := fun z hz => hl z (by simp [hz])
  by_cases hc : confB (viewV v) v.Node.toNat (q19 (allM v) x) = true
  .rw [if_pos hc, qcu v l _ (fun z hz => (q1g.1 hz).1) hl', qi3 hC hx];constructor
   .rintro ((h | h) | h)
    .exact .inl h
    .exact .inr ⟨by simp [h], by rw [h]; exact hc⟩
    .exact .inr ⟨by simp [h.1], h.2⟩
   .rintro (h | ⟨h, h'⟩)
    .exact .inl (.inl h)
    .rcases List.mem_cons.1 h with h | h
     .exact .inl (.inr h)
     .exact .inr ⟨h, h'⟩
  .rw [if_neg hc, qcu v l C hC hl'];constructor
   .rintro (h | h)
    .exact .inl h
    .exact .inr ⟨by simp [h.1], h.2⟩
   .rintro (h | ⟨h, h'⟩)
    .exact .inl h
    .rcases List.mem_cons.1 h with h | h
     .subst h; exact absurd h' hc
     .exact .inr ⟨h, h'⟩
theorem Ready.finish {v : Voter} (h : Ready v) : Ready (finish v) :=
 ⟨h.node, h.seq, h.tr, h.votes, h.accs, qi6 v _ _ h.confs, h.cons, fun x hx => by
  rcases (qcu v _ _ (q0w.1 h.confs).1 h.avc).1 hx with hx | hx
  .exact h.sub x hx
  .exact hx.1, h.heard⟩
theorem Ready.settle {v : Voter} (h : Ready v) : Ready (q0k v) := ((q9d 200 v h (by omega)).1).finish
theorem qgs : ∀ t : Trust, Fits t -> z52 t = some t := by
 apply Trust.ind;intro t ih ht;have hsz : size t < 1073741824 := ht;rw [q25] at hsz;have l1 : ∀ (suf : List Trust) (i : Nat) (acc : List Trust) (a8 : Int) (a10 : List Int) (a12 : List Trust) (a14 : Int) (a16 : List Int) (a18 : List Trust) (a20 : Int) (a22 : List Int), t.Inner.drop i = suf -> acc.length <= i ->
   z4a t.Inner ((t.Inner.length : Nat) : Int) (i : Int) a8 a10 a12 a14 a16 a18 a20 a22 acc = some ⟨a20, a22, acc ++ suf⟩ := by
  intro suf;induction suf with
  | nil =>
   intro i acc a8 a10 a12 a14 a16 a18 a20 a22 h ha;apply y3b;simp only [q0g h, cF, List.append_nil]
  | cons y suf ihs =>
   intro i acc a8 a10 a12 a14 a16 a18 a20 a22 h ha;have hlt := q0b h;have hy : y ∈ t.Inner := List.mem_of_mem_drop (by rw [h]; exact List.mem_cons_self);apply y3b;simp only [q05 h, cT, q03 h, ih y hy (ht.mem hy), bS, q00 (show i < 4611686018427387904 by omega), Trust.etaM];rw [q0a (by simp [q07]; omega), ihs (i + 1) (acc ++ [y]) _ _ _ _ _ _ _ _ (q02 h) (by simp; omega)];simp
 apply y9e;have h1 : z3j t.Nodes = some ((), t.Nodes) := y9f _ _ (by rw [q0a (by simp [q07]; omega)]; rfl);rw [h1, bS, show (0 : Int) = ((0 : Nat) : Int) from rfl, l1 t.Inner 0 [] _ _ _ _ _ _ _ _ rfl (Nat.le_refl _)];simp []
theorem qhb {m : Message} (ht : Fits m.Trust) (h1 : m.Votes.length < 1000000) (h2 : m.Accepts.length < 1000000) : z3e m = some m := by
 apply y59;rw [qgs _ ht, bS, q7j _ h1, bS, q7j _ h2, bS, Trust.etaM]
theorem qo3 (l : List Message) (hl : l.length < 1000000) (hm : ∀ m ∈ l, z3e m = some m) (n s : Int) (t : Int) (ns : List Int) (is : List Trust) (va aa ca : List Claim) (d1 d2 d3 : Int) (d4 : List Int) (d5 : List Trust) (d6 d7 d8 : List Claim) (d9 : List Message) : ∀ (suf : List Message) (i : Nat) (acc : List Message), l.drop i = suf -> acc.length <= i ->
  z4b l ((l.length : Nat) : Int) (i : Int) n s t ns is va aa ca acc d1 d2 d3 d4 d5 d6 d7 d8 d9 = some ⟨n, s, ⟨t, ns, is⟩, va, aa, ca, acc ++ suf⟩
 | [], i, acc, h, ha => by
  apply y33;rw [q0g h, cF, List.append_nil]
 | m :: suf, i, acc, h, ha => by
  have hlt := q0b h;apply y33;rw [q05 h, cT, q03 h, hm m (List.mem_of_mem_drop (i := i) (by rw [h]; simp)), bS, q8j, q0a (by simp [q07]; omega), q00 (by omega), qo3 l hl hm n s t ns is va aa ca d1 d2 d3 d4 d5 d6 d7 d8 d9 suf (i + 1) _ (q02 h) (by simp; omega)];simp
structure Fresh (v : Voter) : Prop where
 tr : Fits v.Trust
 votes : v.Votes.length < 1000000
 accs : v.Accepts.length < 1000000
 confs : v.Confirms.length < 1000000
 heard : v.Heard.length < 1000000
 msgs : ∀ m ∈ v.Heard, z3e m = some m
theorem qc3 {v : Voter} (h : Fresh v) : z2u v = some v := by
 apply yam;rw [qgs _ h.tr, bS, q7j _ h.votes, bS, q7j _ h.accs, bS, q7j _ h.confs, bS];have := qo3 v.Heard h.heard h.msgs v.Node v.Seq v.Trust.Threshold v.Trust.Nodes v.Trust.Inner v.Votes v.Accepts v.Confirms 0 0 0 [] [] [] [] [] [] v.Heard 0 [] rfl (Nat.le_refl _);rw [show (0 : Int) = ((0 : Nat) : Int) from rfl] at this ⊢;rw [this, Trust.etaM]; rfl
theorem qyv {m : Message} (h : msgB m = true) : z3e m = some m :=
 qhb (q2n (q1x.1 h).2.2.1).1 (q11 h).votes (q11 h).accs
theorem Ready.fresh {v : Voter} (h : Ready v) (s : Int) : Fresh { v with Seq := s } :=
 ⟨(q2n h.tr).1, by have := h.vlen; show v.Votes.length < _; omega, by have := h.alen; show v.Accepts.length < _; omega, by have := h.clen; show v.Confirms.length < _; omega, by have := h.hlen; show v.Heard.length < _; omega, fun m hm => qyv (h.msg m hm).1⟩
theorem qqe {v : Voter} (h : Ready v) (l : List Claim) (hl : l.length <= 128) (hv : ∀ x ∈ l, vcl x = true) (d1 d2 d3 : Int) (d4 : List Int) (d5 : List Trust) (d6 d7 d8 : List Claim) (d9 : List Message) (e1 e2 : Int) : ∀ (suf : List Claim) (i : Nat) (C : List Claim), l.drop i = suf -> plainC C = true ->
  z2y (allM v) l ((l.length : Nat) : Int) (i : Int) v.Node v.Seq v.Trust.Threshold v.Trust.Nodes v.Trust.Inner v.Votes v.Accepts C v.Heard d1 d2 d3 d4 d5 d6 d7 d8 d9 (viewV v).Members e1 e2 = some { v with Confirms := confC v C suf }
 | [], i, C, g, hC => by
  apply y1h;rw [q0g g, cF, Trust.etaM]; rfl
 | y :: suf, i, C, g, hC => by
  have hlt := q0b g;have hlen := h.len;have hcl := q3l hC;have hy := hv y (List.mem_of_mem_drop (i := i) (by rw [g]; simp));obtain ⟨n1, n2⟩ := h.node';have hacc : z43 ⟨(viewV v).Members⟩ v.Node ((q19 (allM v) y : Nat) : Int) = some (confB (viewV v) v.Node.toNat (q19 (allM v) y)) := by
   have := qzl h.view (q7r h.all y) n1;rw [n2] at this; exact this
  apply y1h;rw [q05 g, cT, q03 g, qsi _ (by omega) h.all, bS, hacc, bS, qqw C y (by omega) (q0w.1 hC).1 hy, bS, q00 (by omega)];show _ = some { v with Confirms := confC v (if confB (viewV v) v.Node.toNat (q19 (allM v) y) then q0j (C ++ [y]) else C) suf };cases hc : confB (viewV v) v.Node.toNat (q19 (allM v) y) with
  | true =>
   rw [cT, if_pos rfl];exact qqe h l hl hv d1 d2 d3 d4 d5 d6 d7 d8 d9 e1 e2 suf (i + 1) _ (q02 g) (q1i _)
  | false =>
   rw [cF, if_neg (by simp)];exact qqe h l hl hv d1 d2 d3 d4 d5 d6 d7 d8 d9 e1 e2 suf (i + 1) _ (q02 g) hC
theorem qw2 (d1 d2 d3 : Int) (d4 : List Int) (d5 : List Trust) (d6 d7 d8 : List Claim) (d9 : List Message) : ∀ (n : Nat) (v : Voter), Ready v -> 128 - v.Accepts.length < n -> ∀ r : Claim × Bool, r = (match nextV v with | some x => (x, true) | none => (⟨0, 0⟩, false)) ->
  z4i r.2 v.Node v.Seq v.Trust.Threshold v.Trust.Nodes v.Trust.Inner v.Votes v.Accepts v.Confirms v.Heard d1 d2 d3 d4 d5 d6 d7 d8 d9 (viewV v).Members r.1.Topic r.1.Value = some (finish (q24 n v))
 | 0, v, h, hn, _, _ => by omega
 | n + 1, v, h, hn, r, hr => by
  rw [q24];apply yaj;cases hx : nextV v with
  | none =>
   rw [hx] at hr; subst hr;have hh := h.hlen;simp only [cF];rw [qh5 _ (by omega), bS, q0t, qh8, bS, q8j, q0a (by simp [q07]; omega)];have := qqe h v.Accepts h.alen h.avc d1 d2 d3 d4 d5 d6 d7 d8 d9 0 0 v.Accepts 0 v.Confirms rfl h.confs;exact this
  | some x =>
   rw [hx] at hr; subst hr;obtain ⟨h1, h2, h3, _⟩ := qcz hx;have hv := q7e h1;have hr := h.withA hv h3;have hl := qr0 h.accs hv h2;have hal := h.alen;have hal' : (q0j (v.Accepts ++ [x])).length <= 128 := hr.alen;simp only [cT];rw [show Claim.mk x.Topic x.Value = x from rfl, qqw _ _ (by omega) h.avc hv, bS];have hw : Voter.mk v.Node v.Seq (Trust.mk v.Trust.Threshold v.Trust.Nodes v.Trust.Inner) v.Votes (q0j (v.Accepts ++ [x])) v.Confirms v.Heard = withA v x := by rw [Trust.etaM]; rfl
   rw [hw];have hn' : z6a (withA v x) ⟨(viewV v).Members⟩ = _ := qn9 hr;rw [hn', bS];exact qw2 d1 d2 d3 d4 d5 d6 d7 d8 d9 n (withA v x) hr (by show 128 - (q0j (v.Accepts ++ [x])).length < n; omega) _ rfl
theorem qpb {v : Voter} (h : Ready v) : z6d v = some (q0k v) := by
 have hh := h.hlen;apply y8r;have hv : z5q v.Node v.Trust v.Heard = some (viewV v) := y03 h.node h.tr v.Heard (by omega) h.msg;rw [hv, bS, qn9 h, bS];exact qw2 _ _ _ _ _ _ _ _ _ 200 v h (by omega) _ rfl
noncomputable def turnV (b v : Voter) : Voter := if b.Trust = (q0k v).Trust /\ b.Votes = (q0k v).Votes /\ b.Accepts = (q0k v).Accepts then q0k v else { q0k v with Seq := (q0k v).Seq + 1 }
theorem qdu {b v : Voter} (hb : Ready b) (h : Ready v) : z3c b v = some (turnV b v) := by
 have hs := h.settle;have h1 := hb.vlen;have h2 := hb.alen;have hq := hs.seq;have f0 : z2u (q0k v) = some (q0k v) := qc3 (hs.fresh (q0k v).Seq);have f1 : z2u { q0k v with Seq := (q0k v).Seq + 1 } = some { q0k v with Seq := (q0k v).Seq + 1 } := qc3 (hs.fresh _);have hw : Voter.mk (q0k v).Node (addI .i64 (q0k v).Seq 1) (Trust.mk (q0k v).Trust.Threshold (q0k v).Trust.Nodes (q0k v).Trust.Inner) (q0k v).Votes (q0k v).Accepts (q0k v).Confirms (q0k v).Heard = { q0k v with Seq := (q0k v).Seq + 1 } := by rw [Trust.etaM, q28 (by omega) (by omega)]
 apply y5g;rw [qpb h, bS, qkx _ (q2c hb.tr), bS, q9i _ _ (by omega), bS, q9i _ _ (by omega), bS, hw, f1, bS, f0, bS, q0t, q0t, turnV];by_cases e1 : b.Trust = (q0k v).Trust <;> by_cases e2 : b.Votes = (q0k v).Votes <;> by_cases e3 : b.Accepts = (q0k v).Accepts <;> simp [e1, e2, e3]
noncomputable def turnE (b w : Voter) : Voter := if b.Trust = w.Trust /\ b.Votes = w.Votes /\ b.Accepts = w.Accepts then w else { w with Seq := w.Seq + 1 }
section
variable {b : Voter} (hb : SmallV b) (hbs : 0 <= b.Seq /\ b.Seq < 4611686018427387904) (d1 d2 d3 : Int) (d4 : List Int) (d5 : List Trust) (d6 d7 d8 : List Claim) (d9 : List Message)
include hb hbs
theorem qqj {v : Voter} (h : Ready v) (hs : v.Seq = b.Seq) (l : List Claim) (hl : l.length <= 128) (hv : ∀ x ∈ l, vcl x = true) : ∀ (suf : List Claim) (i : Nat) (C : List Claim), l.drop i = suf -> plainC C = true ->
  z2s (allM v) l ((l.length : Nat) : Int) (i : Int) b.Node b.Seq b.Trust.Threshold b.Trust.Nodes b.Trust.Inner b.Votes b.Accepts b.Confirms b.Heard v.Node v.Seq v.Trust.Threshold v.Trust.Nodes v.Trust.Inner v.Votes v.Accepts C v.Heard d1 d2 d3 d4 d5 d6 d7 d8 d9 = some (turnE b { v with Confirms := confC v C suf })
 | [], i, C, g, hC => by
  have h1 := hb.votes;have h2 := hb.accs;apply y3h;rw [q0g g, cF, q60 _ _ (by omega), bS, q60 _ _ (by omega), bS, Trust.etaM, Trust.etaM, qg6 _ hb.tr, bS, q28 (by omega) (by omega), <- hs, turnE];show _ = some (if b.Trust = v.Trust /\ b.Votes = v.Votes /\ b.Accepts = v.Accepts then _ else _);by_cases e1 : b.Trust = v.Trust <;> by_cases e2 : b.Votes = v.Votes <;> by_cases e3 : b.Accepts = v.Accepts <;> simp [e1, e2, e3, confC]
 | y :: suf, i, C, g, hC => by
  have hlt := q0b g;have hlen := h.len;have hh := h.hlen;have hcl := q3l hC;have hy := hv y (List.mem_of_mem_drop (i := i) (by rw [g]; simp));obtain ⟨n1, n2⟩ := h.node';have hacc : z5t (viewV v) v.Node ((q19 (allM v) y : Nat) : Int) = some (confB (viewV v) v.Node.toNat (q19 (allM v) y)) := by
   have := y06 h.view (q7r h.all y) n1;rw [n2] at this; exact this
  have hvw : z65 v.Node v.Trust v.Heard = some (viewV v) := qrc h.node h.tr v.Heard (by omega) h.msg;apply y3h;rw [q05 g, cT, q03 g, Trust.etaM, hvw, bS, qrp _ (by omega) h.all, bS, hacc, bS, qp3 C y (by omega), bS, q00 (by omega)];show _ = some (turnE b { v with Confirms := confC v (if confB (viewV v) v.Node.toNat (q19 (allM v) y) then q0j (C ++ [y]) else C) suf });cases hc : confB (viewV v) v.Node.toNat (q19 (allM v) y) with
  | true =>
   rw [cT, if_pos rfl];exact qqj h hs l hl hv suf (i + 1) _ (q02 g) (q1i _)
  | false =>
   rw [cF, if_neg (by simp)];exact qqj h hs l hl hv suf (i + 1) _ (q02 g) hC
theorem qyk {v : Voter} (h : Ready v) (hs : v.Seq = b.Seq) (l : List Claim) (hl : l.length <= 128) (hv : ∀ x ∈ l, vcl x = true) (R : Voter) : ∀ (suf : List Claim) (i : Nat), l.drop i = suf ->
  (∀ x, suf.find? (canB v) = some x -> z3y true b.Node b.Seq b.Trust.Threshold b.Trust.Nodes b.Trust.Inner b.Votes b.Accepts b.Confirms b.Heard v.Node v.Seq v.Trust.Threshold v.Trust.Nodes v.Trust.Inner v.Votes (q0j (v.Accepts ++ [x])) v.Confirms v.Heard d1 d2 d3 d4 d5 d6 d7 d8 d9 = some R) ->
  (suf.find? (canB v) = none -> turnE b (finish v) = R) ->
  z38 false l ((l.length : Nat) : Int) (i : Int) b.Node b.Seq b.Trust.Threshold b.Trust.Nodes b.Trust.Inner b.Votes b.Accepts b.Confirms b.Heard v.Node v.Seq v.Trust.Threshold v.Trust.Nodes v.Trust.Inner v.Votes v.Accepts v.Confirms v.Heard d1 d2 d3 d4 d5 d6 d7 d8 d9 = some R
 | [], i, g, _, hnone => by
  have hh := h.hlen;apply y0m;rw [q0g g, cF];apply y69;rw [cF, q0t, qlk (by omega), bS, <- hnone rfl];exact qqj hb hbs d1 d2 d3 d4 d5 d6 d7 d8 d9 h hs v.Accepts h.alen h.avc v.Accepts 0 v.Confirms rfl h.confs
 | y :: suf, i, g, hsome, hnone => by
  have hlt := q0b g;have hal := h.alen;apply y0m;rw [q05 g, cT, q03 g, q0t, y3y h, bS, qp3 _ _ (by omega), bS, q00 (by omega)];cases hc : canB v y with
  | true =>
   rw [cT];exact hsome y (by rw [List.find?_cons, hc])
  | false =>
   rw [cF];exact qyk h hs l hl hv R suf (i + 1) (q02 g) (fun x hx => hsome x (by rw [List.find?_cons, hc]; exact hx)) (fun hx => hnone (by rw [List.find?_cons, hc]; exact hx))
theorem qxg : ∀ (n : Nat) (v : Voter), Ready v -> v.Seq = b.Seq -> 128 - v.Accepts.length < n ->
  z3y true b.Node b.Seq b.Trust.Threshold b.Trust.Nodes b.Trust.Inner b.Votes b.Accepts b.Confirms b.Heard v.Node v.Seq v.Trust.Threshold v.Trust.Nodes v.Trust.Inner v.Votes v.Accepts v.Confirms v.Heard d1 d2 d3 d4 d5 d6 d7 d8 d9 = some (turnE b (finish (q24 n v)))
 | 0, v, h, hs, hn => by omega
 | n + 1, v, h, hs, hn => by
  apply y7z;rw [cT, q0t, qwf h, bS];refine qyk hb hbs d1 d2 d3 d4 d5 d6 d7 d8 d9 h hs (known v) (q2t _) (fun x hx => q7e hx) _ (known v) 0 rfl (fun x hx => ?_) (fun hx => ?_)
  .have hx' : nextV v = some x := hx;obtain ⟨h1, h2, h3, _⟩ := qcz hx';have hv := q7e h1;have hr := h.withA hv h3;have hl := qr0 h.accs hv h2;have hal' : (q0j (v.Accepts ++ [x])).length <= 128 := hr.alen;rw [q24, hx'];exact qxg n (withA v x) hr hs (by show 128 - (q0j (v.Accepts ++ [x])).length < n; omega)
  .have hx' : nextV v = none := hx;rw [q24, hx']
theorem q89 {v : Voter} (h : Ready v) (hs : v.Seq = b.Seq) : z4l b v = some (turnV b v) := by
 apply y7i;exact qxg hb hbs _ _ _ _ _ _ _ _ _ 200 v h hs (by omega)
end
def q52 : Voter := ⟨0, 0, ⟨0, [], []⟩, [], [], [], []⟩
noncomputable def voteV (v : Voter) (x : Claim) : Voter × Int :=
 if q2e v = false \/ vcl x = false then (q52, 1)
 else if ∃ y ∈ v.Votes ++ v.Accepts, Contra x y then (q52, 14)
 else if x ∈ v.Votes then (v, 0) else (turnV v { v with Votes := q0j (v.Votes ++ [x]) }, 0)
theorem qse (l : List Claim) (hl : l.length < 1152921504606846976) (x : Claim) : ∀ (suf : List Claim) (i : Nat), l.drop i = suf -> ∃ r : Int, z0v l ((l.length : Nat) : Int) (i : Int) x.Topic x.Value = some (r, x.Topic, x.Value) /\ leB 0 r = decide (∃ y ∈ suf, Contra x y)
 | [], i, h => by
  refine ⟨-1, qwr _ _ _ _ _ _ ?_, by simp [leB]⟩;rw [q0g h]; rfl
 | y :: suf, i, h => by
  have hlt := q0b h;obtain ⟨r, h1, h2⟩ := qse l hl x suf (i + 1) (q02 h);have hf : z6p y x.Topic x.Value = some (decide (Contra x y), x.Topic, x.Value) := y7g _ _ _ _ (by rw [show Claim.mk x.Topic x.Value = x from rfl, qtb]; rfl);by_cases hc : Contra x y
  .refine ⟨i, qwr _ _ _ _ _ _ ?_, by simp [leB, hc]⟩;rw [q05 h, cT, q03 h, hf]; simp [hc]
  .refine ⟨r, qwr _ _ _ _ _ _ ?_, by rw [h2]; simp [hc]⟩;rw [q05 h, cT, q03 h, hf, bS, q00 (by omega)];simp only [hc, decide_false, cF];exact h1
theorem qwh (l : List Claim) (hl : l.length < 1152921504606846976) (x : Claim) : z1e l x.Topic x.Value = some (decide (∃ y ∈ l, Contra x y), x.Topic, x.Value) := by
 obtain ⟨r, h1, h2⟩ := qse l hl x l 0 rfl;apply ya0;have h3 : z1m l x.Topic x.Value = _ := yae _ _ _ _ h1;rw [h3, bS, h2]
theorem Ready.withV {v : Voter} (h : Ready v) (x : Claim) : Ready { v with Votes := q0j (v.Votes ++ [x]) } :=
 ⟨h.node, h.seq, h.tr, q1i _, h.accs, h.confs, h.cons, h.sub, h.heard⟩
theorem qi8 {v : Voter} (hs : SmallV v) (x : Claim) : z69 v x = some (voteV v x) := by
 apply y9g;rw [qa4 hs, bS, qcr, bS, voteV];cases hv : q2e v with
 | false => rfl
 | true =>
  cases hx : vcl x with
  | false => rfl
  | true =>
   obtain ⟨h, hc⟩ := q15.1 hv;have h1 := h.vlen;have h2 := h.alen;have hw : Voter.mk v.Node v.Seq (Trust.mk v.Trust.Threshold v.Trust.Nodes v.Trust.Inner) (q0j (v.Votes ++ [x])) v.Accepts v.Confirms v.Heard = { v with Votes := q0j (v.Votes ++ [x]) } := by rw [Trust.etaM]
   simp only [nT, cF, Bool.true_eq_false, or_self, if_false];rw [qwh _ (by omega), bS, qwh _ (by omega), bS]
   dsimp only
   rw [show Claim.mk x.Topic x.Value = x from rfl, qhr _ (by omega), bS, qc3 (h.fresh v.Seq), bS, qqw _ _ (by omega) (q0w.1 h.votes).1 hx, bS, hw, qdu h (h.withV x), bS, q0t, q0t];by_cases e1 : ∃ y ∈ v.Votes, Contra x y
   .have : ∃ y ∈ v.Votes ++ v.Accepts, Contra x y := by obtain ⟨y, h, h'⟩ := e1; exact ⟨y, by simp [h], h'⟩
    rw [if_pos this]; simp only [e1, decide_true, cT]; rfl
   .by_cases e2 : ∃ y ∈ v.Accepts, Contra x y
    .have : ∃ y ∈ v.Votes ++ v.Accepts, Contra x y := by obtain ⟨y, h, h'⟩ := e2; exact ⟨y, by simp [h], h'⟩
     rw [if_pos this]; simp only [e1, e2, decide_true, decide_false, cT, cF]; rfl
    .have : ¬ ∃ y ∈ v.Votes ++ v.Accepts, Contra x y := by
      rintro ⟨y, h, h'⟩;rcases List.mem_append.1 h with h | h
      .exact e1 ⟨y, h, h'⟩
      .exact e2 ⟨y, h, h'⟩
     rw [if_neg this];by_cases e3 : x ∈ v.Votes
     .simp only [e1, e2, e3, decide_true, decide_false, cT, cF, if_true]
     .simp only [e1, e2, e3, decide_false, cF, if_false]
theorem qrl {v : Voter} (h : Ready v) (x : Claim) (R : Voter × Int) (l : List Claim) (hl : l.length < 1152921504606846976) (d1 d2 d3 : Int) (d4 : List Int) (d5 : List Trust) (d6 d7 d8 : List Claim) (d9 : List Message)
  (hR : R = if x ∈ v.Votes then (v, 0) else (turnV v { v with Votes := q0j (v.Votes ++ [x]) }, 0)) : ∀ (suf : List Claim) (i : Nat), l.drop i = suf ->
  z4p l ((l.length : Nat) : Int) (i : Int) v.Node v.Seq v.Trust.Threshold v.Trust.Nodes v.Trust.Inner v.Votes v.Accepts v.Confirms v.Heard x.Topic x.Value d1 d2 d3 d4 d5 d6 d7 d8 d9 = some (if ∃ y ∈ suf, Contra x y then (q52, 14) else R)
 | [], i, g => by
  have h1 := h.vlen;have hq := h.seq;have hw : Voter.mk v.Node v.Seq (Trust.mk v.Trust.Threshold v.Trust.Nodes v.Trust.Inner) (q0j (v.Votes ++ [x])) v.Accepts v.Confirms v.Heard = { v with Votes := q0j (v.Votes ++ [x]) } := by rw [Trust.etaM]
  apply y3m;rw [q0g g, cF, show Claim.mk x.Topic x.Value = x from rfl, qbg _ (by omega), bS, qp3 _ _ (by omega), bS, q0t, hw, q89 h.small ⟨by omega, by omega⟩ (h.withV x) rfl, bS, q0t, if_neg (by simp), hR];by_cases e3 : x ∈ v.Votes <;> simp [e3]
 | y :: suf, i, g => by
  have hlt := q0b g;apply y3m;rw [q05 g, cT, q03 g, show Claim.mk x.Topic x.Value = x from rfl, qdq, bS, q00 (by omega), qrl h x R l hl d1 d2 d3 d4 d5 d6 d7 d8 d9 hR suf (i + 1) (q02 g)];by_cases hc : Contra x y
  .simp [hc]; rfl
  .simp [hc]
theorem qmp {v : Voter} (hs : SmallV v) (x : Claim) : z78 v x = some (voteV v x) := by
 apply y65;rw [qa2 hs, bS, qdo, bS, voteV];cases hv : q2e v with
 | false => rfl
 | true =>
  cases hx : vcl x with
  | false => rfl
  | true =>
   obtain ⟨h, hc⟩ := q15.1 hv;have h1 := h.vlen;have h2 := h.alen;have h3 := q2t (v.Votes ++ v.Accepts);simp only [nT, cF, Bool.true_eq_false, or_self, if_false];rw [q96 _ _ (by omega) (by omega), bS];have := qrl h x _ (q0j (v.Votes ++ v.Accepts)) (by omega) 0 0 0 [] [] [] [] [] [] rfl (q0j (v.Votes ++ v.Accepts)) 0 rfl;have h4 : ∀ a b : Int, z4p (q0j (v.Votes ++ v.Accepts)) (((q0j (v.Votes ++ v.Accepts)).length : Nat) : Int) 0 v.Node v.Seq v.Trust.Threshold v.Trust.Nodes v.Trust.Inner v.Votes v.Accepts v.Confirms v.Heard x.Topic x.Value 0 0 0 [] [] [] [] [] [] = _ := fun _ _ => this
   rw [h4 0 0];have hiff : (∃ y ∈ q0j (v.Votes ++ v.Accepts), Contra x y) ↔ ∃ y ∈ v.Votes ++ v.Accepts, Contra x y := by
    constructor
    .rintro ⟨y, g, g'⟩; exact ⟨y, (q1g.1 g).2, g'⟩
    .rintro ⟨y, g, g'⟩;refine ⟨y, q1g.2 ⟨?_, g⟩, g'⟩;rcases List.mem_append.1 g with g | g
     .exact (q0w.1 h.votes).1 y g
     .exact h.avc y g
   by_cases e : ∃ y ∈ v.Votes ++ v.Accepts, Contra x y
   .rw [if_pos e, if_pos (hiff.2 e)]
   .rw [if_neg e, if_neg (fun g => e (hiff.1 g))]
noncomputable def declV (v : Voter) (t : Trust) : Voter × Int :=
 if q2e v = false then (q52, 1) else if verr t ≠ 0 then (q52, verr t) else if v.Trust = t then (v, 0) else (turnV v { v with Trust := t }, 0)
theorem Ready.withT {v : Voter} (h : Ready v) {t : Trust} (ht : valid t = true) : Ready { v with Trust := t } := ⟨h.node, h.seq, ht, h.votes, h.accs, h.confs, h.cons, h.sub, h.heard⟩
theorem qx4 {v : Voter} (hs : SmallV v) {t : Trust} (ht : Small t) : z6g v t = some (declV v t) := by
 apply y8u;rw [qa4 hs, bS, qcm _ ht, bS, declV];cases hv : q2e v with
 | false => rfl
 | true =>
  obtain ⟨h, hc⟩ := q15.1 hv;simp only [nT, cF, Bool.true_eq_false, if_false];by_cases e : verr t = 0
  .rw [e, q14, cF, if_neg (by simp), qkx _ hs.tr, bS, qc3 (h.fresh v.Seq), bS];have hw : Voter.mk v.Node v.Seq (Trust.mk t.Threshold t.Nodes t.Inner) v.Votes v.Accepts v.Confirms v.Heard = { v with Trust := t } := by rw [Trust.etaM]
   rw [hw, qdu h (h.withT ((q4f t).1 e)), bS, q0t, q0t];by_cases e2 : v.Trust = t
   .rw [if_pos e2, decide_eq_true e2, cT]
   .rw [if_neg e2, decide_eq_false e2, cF]
  .rw [q31 e, cT, if_pos e]; rfl
theorem qmg {v : Voter} (hs : SmallV v) {t : Trust} (ht : Small t) : z5z v t = some (declV v t) := by
 apply y9i;rw [qa2 hs, bS, qcn _ ht, bS, declV];cases hv : q2e v with
 | false => rfl
 | true =>
  obtain ⟨h, hc⟩ := q15.1 hv;have hq := h.seq;simp only [nT, cF, Bool.true_eq_false, if_false];by_cases e : verr t = 0
  .rw [e, q14, cF, if_neg (by simp), qg6 _ hs.tr, bS];have hw : Voter.mk v.Node v.Seq (Trust.mk t.Threshold t.Nodes t.Inner) v.Votes v.Accepts v.Confirms v.Heard = { v with Trust := t } := by rw [Trust.etaM]
   rw [hw, q89 hs ⟨by omega, by omega⟩ (h.withT ((q4f t).1 e)) rfl, bS, q0t, q0t];by_cases e2 : v.Trust = t
   .rw [if_pos e2, decide_eq_true e2, cT]
   .rw [if_neg e2, decide_eq_false e2, cF]
  .rw [q31 e, cT, if_pos e]; rfl
def qdb (n : Int) (t : Trust) : Voter × Int := if inR n = false then (q52, 5) else if verr t ≠ 0 then (q52, verr t) else (⟨n, 1, t, [], [], [], []⟩, 0)
theorem qje (n : Int) {t : Trust} (ht : Small t) : z6c n t = some (qdb n t) := by
 apply y95;rw [qcm _ ht, bS, qdb, inR, ltB, leB];by_cases e1 : n < 0
 .have : ¬ 0 <= n := by omega
  simp [e1, this]; rfl
 .have e1' : 0 <= n := by omega
  by_cases e2 : 10 <= n
  .have : ¬ n < 10 := by omega
   simp [e1, e2, this]; rfl
  .have e2' : n < 10 := by omega
   by_cases e : verr t = 0
   .rw [qgs _ (q2n ((q4f t).1 e)).1];simp [e1, e2, e1', e2', e, neB]
   .simp [e1, e2, e1', e2', e, neB]; rfl
theorem qk9 (n : Int) {t : Trust} (ht : Small t) : z6t n t = some (qdb n t) := by
 apply y6j;rw [qcn _ ht, bS, qdb, inR, ltB, leB];by_cases e1 : n < 0
 .have : ¬ 0 <= n := by omega
  simp [e1, this]; rfl
 .have e1' : 0 <= n := by omega
  by_cases e2 : 10 <= n
  .have : ¬ n < 10 := by omega
   simp [e1, e2, this]; rfl
  .have e2' : n < 10 := by omega
   by_cases e : verr t = 0
   .simp [e1, e2, e1', e2', e, neB]
   .simp [e1, e2, e1', e2', e, neB]; rfl
def hearL (m : Message) : List Message -> List Message
 | [] => [m]
 | x :: r => if x.Node < m.Node then x :: hearL m r else if x.Node = m.Node then m :: r else m :: x :: r
def oldB (l : List Message) (m : Message) : Bool := l.any fun x => decide (x.Node = m.Node) && decide (m.Seq <= x.Seq)
noncomputable def hearV (v : Voter) (m : Message) : Voter × Int :=
 if q2e v = false \/ msgB m = false \/ m.Node = v.Node then (q52, 1)
 else if oldB v.Heard m = true then (q52, 9) else (turnV v { v with Heard := hearL m v.Heard }, 0)
theorem qiu {n : Int} {m : Message} (hm : msgB m = true) (hn : m.Node ≠ n) : ∀ {l : List Message} {q : Option Int}, q2o n q l = true -> (∀ k, q = some k -> k < m.Node) -> q2o n q (hearL m l) = true
 | [], q, _, hq => by
  cases q with
  | none => simp [hearL, q2o, hm, hn]
  | some k => simp [hearL, q2o, hm, hn, hq k rfl]
 | y :: r, q, h, hq => by
  have hi := q2m.1 h;rw [hearL];split
  .rename_i hlt;have hr : q2o n (some y.Node) r = true := by
    rw [List.pairwise_cons] at hi;exact q2m.2 ⟨fun x hx => hi.1 x (by simp [hx]), fun k hk x hx => by cases hk; exact hi.2.2.1 x hx, hi.2.2.2⟩
   have ih := qiu hm hn hr (fun k hk => by cases hk; exact hlt);have hj := q2m.1 ih;refine q2m.2 ⟨fun x hx => ?_, fun k hk x hx => ?_, List.pairwise_cons.2 ⟨fun x hx => hj.2.1 _ rfl x hx, hj.2.2⟩⟩
   .rcases List.mem_cons.1 hx with e | hx
    .subst e; exact hi.1 x (by simp)
    .exact hj.1 x hx
   .have hy := hi.2.1 k hk y (by simp);rcases List.mem_cons.1 hx with e | hx
    .subst e; exact hy
    .exact Int.lt_trans hy (hj.2.1 _ rfl x hx)
  .rename_i hge;rw [List.pairwise_cons] at hi;split
   .rename_i heq;refine q2m.2 ⟨fun x hx => ?_, fun k hk x hx => ?_, List.pairwise_cons.2 ⟨fun x hx => by rw [<- heq]; exact hi.2.2.1 x hx, hi.2.2.2⟩⟩
    .rcases List.mem_cons.1 hx with e | hx
     .subst e; exact ⟨hm, hn⟩
     .exact hi.1 x (by simp [hx])
    .rcases List.mem_cons.1 hx with e | hx
     .subst e; exact hq k hk
     .exact hi.2.1 k hk x (by simp [hx])
   .rename_i hne;have hlt : m.Node < y.Node := by omega
    refine q2m.2 ⟨fun x hx => ?_, fun k hk x hx => ?_, List.pairwise_cons.2 ⟨fun x hx => ?_, List.pairwise_cons.2 hi.2.2⟩⟩
    .rcases List.mem_cons.1 hx with e | hx
     .subst e; exact ⟨hm, hn⟩
     .exact hi.1 x hx
    .rcases List.mem_cons.1 hx with e | hx
     .subst e; exact hq k hk
     .exact hi.2.1 k hk x hx
    .rcases List.mem_cons.1 hx with e | hx
     .subst e; exact hlt
     .exact Int.lt_trans hlt (hi.2.2.1 x hx)
theorem Ready.withH {v : Voter} (h : Ready v) {m : Message} (hm : msgB m = true) (hn : m.Node ≠ v.Node) : Ready { v with Heard := hearL m v.Heard } :=
 ⟨h.node, h.seq, h.tr, h.votes, h.accs, h.confs, h.cons, h.sub, qiu hm hn h.heard (fun k hk => by cases hk)⟩
def pos (k : Int) : List Message -> Nat
 | [] => 0
 | x :: r => if x.Node < k then pos k r + 1 else 0
theorem qy3 (k : Int) : ∀ l : List Message, pos k l <= l.length
 | [] => Nat.le_refl _
 | x :: r => by
  rw [pos]; split
  .simp; exact qy3 k r
  .simp
theorem qjy {k : Int} : ∀ {l : List Message}, l.Pairwise (fun a b => a.Node < b.Node) -> ∀ (i : Nat) (x : Message), l[i]? = some x -> (x.Node < k ↔ i < pos k l)
 | [], _, i, x, h => by simp at h
 | y :: r, hp, i, x, h => by
  rw [List.pairwise_cons] at hp;rw [pos];cases i with
  | zero =>
   simp at h; subst h;split <;> simp_all
  | succ i =>
   have h' : r[i]? = some x := by simpa using h
   have hyx := hp.1 x (List.mem_of_getElem? h');split
   .rw [qjy hp.2 i x h']; omega
   .constructor
    .intro g; omega
    .intro g; omega
def q6x (k : Int) (l : List Message) : Bool := match l[pos k l]? with | some x => decide (x.Node = k) | none => false
theorem qnc {m : Message} : ∀ {l : List Message}, hearL m l = if q6x m.Node l = true then l.set (pos m.Node l) m else l.take (pos m.Node l) ++ m :: l.drop (pos m.Node l)
 | [] => by simp [hearL, q6x, pos]
 | x :: r => by
  rw [hearL];by_cases h1 : x.Node < m.Node
  .have hp : pos m.Node (x :: r) = pos m.Node r + 1 := by rw [pos, if_pos h1]
   have hf : q6x m.Node (x :: r) = q6x m.Node r := by simp [q6x, hp]
   rw [if_pos h1, qnc (l := r), hp, hf];split <;> simp
  .have hp : pos m.Node (x :: r) = 0 := by rw [pos, if_neg h1]
   have hf : q6x m.Node (x :: r) = decide (x.Node = m.Node) := by simp [q6x, hp]
   rw [if_neg h1, hp, hf];by_cases h2 : x.Node = m.Node <;> simp [h2]
theorem qz4 {m : Message} {l : List Message} (hp : l.Pairwise (fun a b => a.Node < b.Node)) : oldB l m = match l[pos m.Node l]? with | some x => decide (x.Node = m.Node) && decide (m.Seq <= x.Seq) | none => false := by
 cases hx : l[pos m.Node l]? with
 | none =>
  rw [oldB, List.any_eq_false];intro x hx';obtain ⟨i, hi, rfl⟩ := List.mem_iff_getElem.1 hx';have h1 := (qjy (k := m.Node) hp i l[i] (by simp [hi]));have h2 := List.getElem?_eq_none_iff.1 hx;have : l[i].Node < m.Node := h1.2 (by omega);simp; omega
 | some y =>
  show oldB l m = (decide (y.Node = m.Node) && decide (m.Seq <= y.Seq));rw [oldB, Bool.eq_iff_iff, List.any_eq_true];constructor
  .rintro ⟨x, hx', h⟩;simp only [aT, dT'] at h;obtain ⟨i, hi, rfl⟩ := List.mem_iff_getElem.1 hx';have h1 := (qjy (k := m.Node) hp i l[i] (by simp [hi]));have h3 := (qjy (k := m.Node) hp _ y hx);have hge : pos m.Node l <= i := by
    have : ¬ l[i].Node < m.Node := by omega
    rw [h1] at this; omega
   have hpl := (List.getElem?_eq_some_iff.1 hx).1;have : i = pos m.Node l := by
    by_cases e : i = pos m.Node l
    .exact e
    .have hlt : pos m.Node l < i := by omega
     have := List.pairwise_iff_getElem.1 hp _ _ hpl hi hlt;have h4 : l[pos m.Node l] = y := (List.getElem?_eq_some_iff.1 hx).2;rw [h4] at this;have : ¬ y.Node < m.Node := by rw [h3]; omega
     omega
   subst this;have h4 : l[pos m.Node l] = y := (List.getElem?_eq_some_iff.1 hx).2;rw [h4] at h;simp [h]
  .intro h;exact ⟨y, List.mem_of_getElem? hx, h⟩
theorem y8e : ∀ i : Fin 12, ∀ j : Fin 12, IntKind.wrap .i64 (shrI .u64 (IntKind.wrap .u64 (addI .i64 ((i.val : Nat) : Int) ((j.val : Nat) : Int))) 1) = (((i.val + j.val) / 2 : Nat) : Int) := by decide +kernel
theorem qsd (x : Message) (k : Int) : z60 x k = some (if x.Node < k then -1 else if k < x.Node then 1 else 0) := y6h _ _ _ (by rw [qgh]; rfl)
theorem qv6 {l : List Message} (hl : l.length <= 10) (hp : l.Pairwise (fun a b => a.Node < b.Node)) (k : Int) : ∀ (n i j : Nat), j - i <= n -> i <= pos k l -> pos k l <= j -> j <= l.length ->
  z0g l k ((l.length : Nat) : Int) (i : Int) (j : Int) = some (((pos k l : Nat) : Int), q6x k l)
 | n, i, j, hn, hi, hj, hjl => by
  apply y6f;by_cases hij : i < j
  .obtain ⟨n, rfl⟩ : ∃ m, n = m + 1 := ⟨n - 1, by omega⟩;have hmid := y8e ⟨i, by omega⟩ ⟨j, by omega⟩
   dsimp only at hmid
   have hml : (i + j) / 2 < l.length := by omega
   have hg : l[(i + j) / 2]? = some l[(i + j) / 2] := by simp [hml]
   have hpl := qjy (k := k) hp _ _ hg;rw [q04 (by omega), cT, hmid, q0u (by omega) (by rw [tN]; exact hg), qsd, bS];by_cases h1 : l[(i + j) / 2].Node < k
   .rw [if_pos h1, q04 (by decide), cT, q00 (by omega)];exact qv6 hl hp k n ((i + j) / 2 + 1) j (by omega) (by have := hpl.1 h1; omega) hj hjl
   .rw [if_neg h1, q01 (by split <;> decide), cF];exact qv6 hl hp k n i ((i + j) / 2) (by omega) hi (by have := fun h => h1 (hpl.2 h); omega) (by omega)
  .have hij' : i = pos k l := by omega
   subst hij';rw [q01 (by omega), cF];unfold q6x;by_cases he : pos k l < l.length
   .have hg : l[pos k l]? = some l[pos k l] := by simp [he]
    have hpl := qjy (k := k) hp _ _ hg;have h1 : ¬ l[pos k l].Node < k := by rw [hpl]; omega
    rw [q04 (by omega), cT, q0u (by omega) (by rw [tN]; exact hg), qsd, bS, hg, if_neg h1];by_cases h2 : k < l[pos k l].Node
    .have : ¬ l[pos k l].Node = k := by omega
     simp [h2, this, eqB]
    .have : l[pos k l].Node = k := by omega
     simp [this, eqB]
   .rw [q01 (by omega), cF, List.getElem?_eq_none (by omega)]
theorem y6g {l : List Message} (hl : l.length <= 10) (hp : l.Pairwise (fun a b => a.Node < b.Node)) (k : Int) : z19 l k = some (((pos k l : Nat) : Int), q6x k l) := by
 apply y8w;exact qv6 hl hp k l.length 0 l.length (by omega) (by omega) (qy3 k l) (Nat.le_refl _)
theorem qxn (l : List Message) : (l.map q0q).all (q4p 7) = true := by
 rw [List.all_eq_true]; intro x hx; obtain ⟨y, _, rfl⟩ := List.mem_map.1 hx; rfl
theorem qta (l : List Message) (hl : l.length < 1000000) (m : Message) (i : Nat) (hi : i <= l.length) : z54 (i : Int) [m] l = some (l.take i ++ m :: l.drop i, ()) := by
 refine qd2 (T := tn) (m := q78 7) sigOk (by kernel_rfl) rfl ?_;show libA (q78 7) [.ref 0, .d (.v (.int .i64 i)), .d (.list [q0q m])] [[.own (l.map q0q) false]] = some (.d (.list ((l.take i ++ m :: l.drop i).map q0q)), [[.undef]]);unfold libA q78;have h1 : (i : Int) <= ((l.map q0q).length : Int) := by simp; omega
 have h2 : (l.map q0q).length < q07 := by simp [q07]; omega
 have h3 : q4p 7 (q0q m) = true := rfl;simp only [Int.natCast_nonneg, h1, h2, h3, qxn, and_self, if_true, tN];simp only [List.map_append, List.map_cons, List.map_take, List.map_drop];rfl
theorem qx5 {v : Voter} (hs : SmallV v) {m : Message} (hm : SmallM m) : z7b v m = some (hearV v m) := by
 apply y5m;rw [qa4 hs, bS, qef hm, bS, hearV];cases hv : q2e v with
 | false => rfl
 | true =>
  cases hx : msgB m with
  | false => rfl
  | true =>
   obtain ⟨h, hc⟩ := q15.1 hv;simp only [nT, cF, Bool.true_eq_false, false_or];by_cases hn : m.Node = v.Node
   .rw [if_pos hn, hn, q0z]; rfl
   .rw [if_neg hn, q0o hn, cF];have hp := (q2m.1 h.heard).2.2;have hh := h.hlen;rw [y6g hh hp, bS, qz4 hp, qh5 _ (by omega)];have hpl := qy3 m.Node v.Heard;have hw : ∀ H, Voter.mk v.Node v.Seq (Trust.mk v.Trust.Threshold v.Trust.Nodes v.Trust.Inner) v.Votes v.Accepts v.Confirms H = { v with Heard := H } := fun H => by rw [Trust.etaM]
    have ht := qdu h (h.withH hx hn);rw [qnc] at ht ⊢;simp only [bS, q8j];cases hf : q6x m.Node v.Heard with
    | true =>
     rw [hf, if_pos rfl] at ht;unfold q6x at hf;cases hg : v.Heard[pos m.Node v.Heard]? with
     | none => rw [hg] at hf; cases hf
     | some y =>
      rw [hg] at hf;have hy : y.Node = m.Node := by simpa using hf
      simp only [cT, if_true];rw [q0u (by omega) (by rw [tN]; exact hg), q0u (by omega) (by rw [tN]; exact hg), q3k (by rw [tN]; exact hg), tN, hw, ht, bS, q0t];by_cases hq : m.Seq <= y.Seq <;> simp [leB, hy, hq] <;> rfl
    | false =>
     rw [hf, if_neg (by simp)] at ht;unfold q6x at hf;have hold : (match v.Heard[pos m.Node v.Heard]? with | some x => decide (x.Node = m.Node) && decide (m.Seq <= x.Seq) | none => false) = false := by
      cases hg : v.Heard[pos m.Node v.Heard]? with
      | none => rfl
      | some y => rw [hg] at hf; simp only at hf; simp [hf]
     simp only [cF, hold, fT, if_false];rw [qta _ (by omega) m _ hpl, bS, hw, ht, bS, q0t]
theorem qsz {m : Message} : ∀ {l : List Message}, (∀ x ∈ l, m.Node < x.Node) -> hearL m l = m :: l
 | [], _ => rfl
 | y :: r, h => by
  have := h y (by simp);rw [hearL, if_neg (by omega), if_neg (by omega)]
theorem qpj {m : Message} {l : List Message} (h : ∀ x ∈ l, m.Node < x.Node) : oldB l m = false := by
 rw [oldB, List.any_eq_false];intro x hx;have := h x hx;simp; omega
theorem qhg (y : Message) (l : List Message) (m : Message) : oldB (y :: l) m = (decide (y.Node = m.Node) && decide (m.Seq <= y.Seq) || oldB l m) := rfl
theorem qrz {v : Voter} (h : Ready v) {m : Message} (d1 d2 d3 : Int) (d4 : List Int) (d5 : List Trust) (d6 d7 d8 : List Claim) (d9 : List Message) : ∀ (suf : List Message) (i : Nat) (acc : List Message) (done : Bool), i <= v.Heard.length -> v.Heard.drop i = suf -> acc.length <= 2 * i -> (done = true -> ∀ x ∈ suf, m.Node < x.Node) ->
  suf.Pairwise (fun a b => a.Node < b.Node) -> (oldB suf m = false -> Ready { v with Heard := acc ++ (if done = true then suf else hearL m suf) }) ->
  z3d done v.Heard ((v.Heard.length : Nat) : Int) (i : Int) v.Node v.Seq v.Trust.Threshold v.Trust.Nodes v.Trust.Inner v.Votes v.Accepts v.Confirms v.Heard m.Node m.Seq m.Trust.Threshold m.Trust.Nodes m.Trust.Inner m.Votes m.Accepts d1 d2 d3 d4 d5 d6 d7 d8 d9 v.Node v.Seq v.Trust.Threshold v.Trust.Nodes v.Trust.Inner v.Votes v.Accepts v.Confirms acc =
   some (if oldB suf m = true then (q52, 9) else (turnV v { v with Heard := acc ++ (if done = true then suf else hearL m suf) }, 0))
 | [], i, acc, done, hil, g, ha, hd, hp, hR => by
  have hq := h.seq;have hh := h.hlen;have hw : ∀ H, Voter.mk v.Node v.Seq (Trust.mk v.Trust.Threshold v.Trust.Nodes v.Trust.Inner) v.Votes v.Accepts v.Confirms H = { v with Heard := H } := fun H => by rw [Trust.etaM]
  have hr := hR rfl;apply y0r;rw [q0g g, cF, q0t, q8j, hw, hw, q0a (by simp [q07]; omega)];cases done with
  | true =>
   simp only [if_true, List.append_nil] at hr ⊢;rw [nT, cF, q89 h.small ⟨by omega, by omega⟩ hr rfl, bS, q0t];rfl
  | false =>
   simp only [fT, if_false, hearL] at hr ⊢;rw [Bool.not_false, cT, q89 h.small ⟨by omega, by omega⟩ hr rfl, bS, q0t];rfl
 | y :: suf, i, acc, done, hil, g, ha, hd, hp, hR => by
  have hlt := q0b g;have hh := h.hlen;rw [List.pairwise_cons] at hp;have ih := fun acc' done' a b c => qrz h (m := m) d1 d2 d3 d4 d5 d6 d7 d8 d9 suf (i + 1) acc' done' hlt (q02 g) a b hp.2 c
  apply y0r;rw [q05 g, cT, q03 g, q00 (by omega), q8j, q8j, q0a (by simp [q07]; omega), q0a (by simp [q07]; omega), q0a (by simp [q07]; omega), qhg];by_cases h1 : y.Node = m.Node
  .have hgt : ∀ x ∈ suf, m.Node < x.Node := fun x hx => by rw [<- h1]; exact hp.1 x hx
   have hdf : done = false := by
    cases done with
    | false => rfl
    | true => have := hd rfl y (by simp); omega
   subst hdf;rw [h1, q0z, cT, qpj hgt];have e1 : hearL m (y :: suf) = m :: suf := by rw [hearL, if_neg (by omega), if_pos h1]
   by_cases h2 : m.Seq <= y.Seq
   .simp [leB, h2]; rfl
   .have hr : Ready { v with Heard := acc ++ (if false = true then suf else hearL m suf) } := by
     have := hR (by rw [qhg, qpj hgt]; simp [h2]);rw [e1] at this;rw [qsz hgt]; exact this
    rw [show leB m.Seq y.Seq = false by simp [leB, h2], cF, ih acc false (by omega) (fun e => by cases e) (fun _ => hr), qpj hgt, e1, qsz hgt];simp [h2]
  .rw [q0o h1, cF];have e0 : (decide (y.Node = m.Node) && decide (m.Seq <= y.Seq) || oldB suf m) = oldB suf m := by simp [h1]
   rw [e0];have hR' : oldB suf m = false -> Ready { v with Heard := acc ++ (if done = true then y :: suf else hearL m (y :: suf)) } := fun ho => hR (by rw [qhg, e0]; exact ho)
   by_cases h2 : m.Node < y.Node
   .have hgt : ∀ x ∈ suf, m.Node < x.Node := fun x hx => Int.lt_trans h2 (hp.1 x hx)
    rw [q04 h2, cT];cases done with
    | false =>
     have e1 : hearL m (y :: suf) = m :: y :: suf := by rw [hearL, if_neg (by omega), if_neg h1]
     simp only [Bool.not_false, cT, fT, if_false, e1] at hR' ⊢;rw [ih (acc ++ [m] ++ [y]) true (by simp; omega) (fun _ => hgt) (fun ho => by simpa using hR' ho)];simp
    | true =>
     simp only [nT, cF, if_true] at hR' ⊢;rw [ih (acc ++ [y]) true (by simp; omega) (fun _ => hgt) (fun ho => by simpa using hR' ho)];simp
   .have h3 : y.Node < m.Node := by omega
    have hdf : done = false := by
     cases done with
     | false => rfl
     | true => have := hd rfl y (by simp); omega
    subst hdf;have e1 : hearL m (y :: suf) = y :: hearL m suf := by rw [hearL, if_pos h3]
    rw [q01 (by omega), cF];simp only [fT, if_false, e1] at hR' ⊢;rw [ih (acc ++ [y]) false (by simp; omega) (fun e => by cases e) (fun ho => by simpa using hR' ho)];simp
theorem qn7 {v : Voter} (hs : SmallV v) {m : Message} (hm : SmallM m) : z79 v m = some (hearV v m) := by
 apply ya1;rw [qa2 hs, bS, qdp hm, bS, hearV];cases hv : q2e v with
 | false => rfl
 | true =>
  cases hx : msgB m with
  | false => rfl
  | true =>
   obtain ⟨h, hc⟩ := q15.1 hv;simp only [nT, cF, Bool.true_eq_false, false_or];by_cases hn : m.Node = v.Node
   .rw [if_pos hn, hn, q0z]; rfl
   .rw [if_neg hn, q0o hn, cF];exact qrz h (m := m) 0 0 0 [] [] [] [] [] [] v.Heard 0 [] false (Nat.zero_le _) rfl (Nat.le_refl _) (fun e => by cases e) (q2m.1 h.heard).2.2 (fun _ => h.withH hx hn)
theorem qrb {v : Voter} (ht : Fits v.Trust) (h1 : v.Votes.length < 1000000) (h2 : v.Accepts.length < 1000000) : z73 v = some (say v) := by
 apply y8l;rw [qh8, bS, qhb ht h1 h2, bS, q8j]
noncomputable def msgEq (a b : Message) : Bool := decide (a.Node = b.Node) && (decide (a.Seq = b.Seq) && (decide (a.Trust = b.Trust) && (decide (a.Votes = b.Votes) && decide (a.Accepts = b.Accepts))))
theorem qh6 {a b : Message} : msgEq a b = true ↔ a = b := by
 cases a; cases b; simp [msgEq]
theorem qnz {a : Message} (h : SmallM a) (b : Message) : z6f a b = some (msgEq a b) := by
 apply y5b;rw [qkx _ h.tr, q9i _ _ (by have := h.votes; omega), q9i _ _ (by have := h.accs; omega)];simp only [bS, eqB, msgEq];cases decide (a.Node = b.Node) <;> cases decide (a.Seq = b.Seq) <;> cases decide (a.Trust = b.Trust) <;> cases decide (a.Votes = b.Votes) <;> rfl
theorem qnq {a : Message} (h : SmallM a) (b : Message) : z76 a b = some (msgEq a b) := by
 apply y8y;rw [qg6 _ h.tr, q60 _ _ (by have := h.votes; omega), q60 _ _ (by have := h.accs; omega)];simp only [bS, eqB, msgEq];cases decide (a.Node = b.Node) <;> cases decide (a.Seq = b.Seq) <;> cases decide (a.Trust = b.Trust) <;> cases decide (a.Votes = b.Votes) <;> rfl
noncomputable def q54 : List Message -> List Message -> Bool
 | [], [] => true
 | a :: l, b :: k => msgEq a b && q54 l k
 | _, _ => false
theorem qds : ∀ {l k : List Message}, q54 l k = true ↔ l = k
 | [], [] => by simp [q54]
 | [], b :: k => by simp [q54]
 | a :: l, [] => by simp [q54]
 | a :: l, b :: k => by rw [q54, aT, qh6, qds]; simp
theorem qyh (l k : List Message) (hl : l.length < 1000000) (hk : l.length = k.length) (hm : ∀ m ∈ l, SmallM m) : ∀ (suf suk : List Message) (i : Nat), l.drop i = suf -> k.drop i = suk -> z0e k l ((l.length : Nat) : Int) (i : Int) = some (q54 suf suk)
 | [], suk, i, h, h' => by
  have : suk = [] := by rw [<- h', List.drop_eq_nil_iff, <- hk]; exact List.drop_eq_nil_iff.1 h
  subst this;apply y3g;rw [q0g h]; rfl
 | y :: suf, [], i, h, h' => by
  have := q0b h;have := List.drop_eq_nil_iff.1 h';omega
 | y :: suf, z :: suk, i, h, h' => by
  have hlt := q0b h;apply y3g;rw [q05 h, cT, q03 h, q03 h', qnz (hm y (List.mem_of_mem_drop (i := i) (by rw [h]; simp))), bS, q00 (by omega), qyh l k hl hk hm suf suk (i + 1) (q02 h) (q02 h'), q54];cases msgEq y z <;> rfl
theorem qjv {l k : List Message} (h : l.length ≠ k.length) : q54 l k = false := by
 cases e : q54 l k with
 | false => rfl
 | true => exact absurd (by rw [qds.1 e]) h
noncomputable def sameV (a b : Voter) : Bool := msgEq (say a) (say b) && (decide (a.Confirms = b.Confirms) && q54 a.Heard b.Heard)
theorem qvz {a b : Voter} : sameV a b = true ↔ a = b := by
 rw [sameV, aT, aT, qh6, dT', qds];cases a; cases b;simp [say];constructor
 .rintro ⟨⟨h1, h2, h3, h4, h5⟩, h6, h7⟩; exact ⟨h1, h2, h3, h4, h5, h6, h7⟩
 .rintro ⟨h1, h2, h3, h4, h5, h6, h7⟩; exact ⟨⟨h1, h2, h3, h4, h5⟩, h6, h7⟩
theorem qmf {a : Voter} (h : SmallV a) (b : Voter) : z6v a b = some (sameV a b) := by
 have hl := h.heard;apply y7a;have h1 : z18 a.Heard b.Heard = some (q54 a.Heard b.Heard) := by
  apply y5q;by_cases hk : a.Heard.length = b.Heard.length
  .rw [hk, q14, cF, <- hk];exact qyh _ _ hl hk h.msgs _ _ 0 rfl rfl
  .rw [q31 (by omega), cT, qjv hk]
 rw [qh8, qh8, bS, bS, qnz (a := say a) ⟨h.tr, h.votes, h.accs⟩, q9i _ _ (by have := h.confs; omega), h1];simp only [bS, sameV];cases msgEq (say a) (say b) <;> cases decide (a.Confirms = b.Confirms) <;> rfl
theorem qm6 (a b : Voter) (hl : a.Heard.length < 1000000) (hk : a.Heard.length = b.Heard.length) (hm : ∀ m ∈ a.Heard, SmallM m) : ∀ (suf suk : List Message) (i : Nat), a.Heard.drop i = suf -> b.Heard.drop i = suk ->
  z4n ((a.Heard.length : Nat) : Int) (i : Int) a.Node a.Seq a.Trust.Threshold a.Trust.Nodes a.Trust.Inner a.Votes a.Accepts a.Confirms a.Heard b.Node b.Seq b.Trust.Threshold b.Trust.Nodes b.Trust.Inner b.Votes b.Accepts b.Confirms b.Heard = some (q54 suf suk)
 | [], suk, i, h, h' => by
  have : suk = [] := by rw [<- h', List.drop_eq_nil_iff, <- hk]; exact List.drop_eq_nil_iff.1 h
  subst this;apply y3d;rw [q0g h]; rfl
 | y :: suf, [], i, h, h' => by
  have := q0b h;have := List.drop_eq_nil_iff.1 h';omega
 | y :: suf, z :: suk, i, h, h' => by
  have hlt := q0b h;apply y3d;rw [q05 h, cT, q03 h, q03 h', qnq (hm y (List.mem_of_mem_drop (i := i) (by rw [h]; simp))), bS, q00 (by omega), qm6 a b hl hk hm suf suk (i + 1) (q02 h) (q02 h'), q54];cases msgEq y z <;> rfl
theorem qhi {a : Voter} (h : SmallV a) (b : Voter) : z48 a b = some (sameV a b) := by
 have hl := h.heard;apply y7v;have h1 : (bif neB ((a.Heard.length : Nat) : Int) ((b.Heard.length : Nat) : Int) then some false else z4n ((a.Heard.length : Nat) : Int) 0 a.Node a.Seq a.Trust.Threshold a.Trust.Nodes a.Trust.Inner a.Votes a.Accepts a.Confirms a.Heard b.Node b.Seq b.Trust.Threshold b.Trust.Nodes b.Trust.Inner b.Votes b.Accepts b.Confirms b.Heard) = some (q54 a.Heard b.Heard) := by
  by_cases hk : a.Heard.length = b.Heard.length
  .rw [<- hk, q14, cF];exact qm6 a b hl hk h.msgs _ _ 0 rfl rfl
  .rw [q31 (by omega), cT, qjv hk]
 rw [qg6 _ h.tr, q60 _ _ (by have := h.votes; omega), q60 _ _ (by have := h.accs; omega), q60 _ _ (by have := h.confs; omega), h1];have n1 : ∀ x y : Int, neB x y = !decide (x = y) := fun x y => by by_cases h : x = y <;> simp [neB, h]
 simp only [bS, n1];show _ = some ((decide (a.Node = b.Node) && (decide (a.Seq = b.Seq) && (decide (a.Trust = b.Trust) && (decide (a.Votes = b.Votes) && decide (a.Accepts = b.Accepts))))) && (decide (a.Confirms = b.Confirms) && q54 a.Heard b.Heard));cases decide (a.Node = b.Node) <;> cases decide (a.Seq = b.Seq) <;> cases decide (a.Trust = b.Trust) <;> cases decide (a.Votes = b.Votes) <;> cases decide (a.Accepts = b.Accepts) <;> cases decide (a.Confirms = b.Confirms) <;> rfl
theorem q39 (v : Voter) : (q0k v).Node = v.Node /\ (q0k v).Seq = v.Seq /\ (q0k v).Trust = v.Trust /\ (q0k v).Votes = v.Votes /\ (q0k v).Heard = v.Heard := by
 obtain ⟨h1, h2, h3, h4, _, h6⟩ := q9b 200 v;exact ⟨h1, h2, h3, h4, h6⟩
theorem qir : ∀ (n : Nat) (v : Voter), Ready v -> ∀ x ∈ v.Accepts, x ∈ (q24 n v).Accepts
 | 0, v, h, x, hx => hx
 | n + 1, v, h, x, hx => by
  rw [q24];cases hy : nextV v with
  | none => exact hx
  | some y =>
   obtain ⟨h1, h2, h3, _⟩ := qcz hy;have hv := q7e h1;exact qir n (withA v y) (h.withA hv h3) x ((qi3 h.avc hv).2 (.inl hx))
theorem qns {v : Voter} (h : Ready v) {y : Claim} : y ∈ (q0k v).Confirms ↔ y ∈ v.Confirms \/ y ∈ (q0k v).Accepts /\ confB (viewV (q0k v)) (q0k v).Node.toNat (q19 (allM (q0k v)) y) = true := by
 have hs := (q9d 200 v h (by omega)).1;obtain ⟨_, _, _, _, h5, _⟩ := q9b 200 v;show y ∈ confC (q24 200 v) (q24 200 v).Confirms (q24 200 v).Accepts ↔ _;rw [qcu _ _ _ (q0w.1 hs.confs).1 hs.avc, h5];exact Iff.rfl
theorem Ready.withS {v : Voter} (h : Ready v) {s : Int} (h1 : 1 <= s) (h2 : s <= 1000000) : Ready { v with Seq := s } := ⟨h.node, ⟨h1, h2⟩, h.tr, h.votes, h.accs, h.confs, h.cons, h.sub, h.heard⟩
theorem q5n (b v : Voter) : ∃ s : Int, (s = v.Seq \/ s = v.Seq + 1) /\ turnV b v = { q0k v with Seq := s } /\ (s = v.Seq ↔ b.Trust = v.Trust /\ b.Votes = v.Votes /\ b.Accepts = (q0k v).Accepts) := by
 obtain ⟨h1, h2, h3, h4, h5⟩ := q39 v;rw [turnV, h3, h4, h2];split
 .rename_i h;exact ⟨v.Seq, .inl rfl, by rw [<- h2], fun _ => h, fun _ => rfl⟩
 .rename_i h;exact ⟨v.Seq + 1, .inr rfl, rfl, fun e => by omega, fun e => absurd e h⟩
structure Step (v w : Voter) : Prop where
 node : w.Node = v.Node
 seq : w.Seq = v.Seq \/ w.Seq = v.Seq + 1
 votes : ∀ x ∈ v.Votes, x ∈ w.Votes
 accs : ∀ x ∈ v.Accepts, x ∈ w.Accepts
 confs : ∀ x ∈ v.Confirms, x ∈ w.Confirms
 ready : w.Seq <= 1000000 -> q2e w = true
 small : SmallV w
theorem Ready.smallS {v : Voter} (h : Ready v) (s : Int) : SmallV { v with Seq := s } := ⟨h.small.tr, h.small.votes, h.small.accs, h.small.confs, h.small.heard, h.small.msgs⟩
theorem qhs {b v u : Voter} (hu : Ready u) (hc : consC u.Votes = true) (hn : u.Node = v.Node) (hs : u.Seq = v.Seq) (hv : ∀ x ∈ v.Votes, x ∈ u.Votes) (ha : u.Accepts = v.Accepts) (hcf : u.Confirms = v.Confirms) : Step v (turnV b u) := by
 obtain ⟨s, h1, h2, _⟩ := q5n b u;obtain ⟨g1, g2, g3, g4, g5⟩ := q39 u;have hr := hu.settle;rw [h2];refine ⟨g1.trans hn, by rw [<- hs]; exact h1, fun x hx => by show x ∈ (q0k u).Votes; rw [g4]; exact hv x hx, fun x hx => qir 200 u hu x (by rw [ha]; exact hx), fun x hx => (qns hu).2 (.inl (by rw [hcf]; exact hx)), fun hle => ?_, hr.smallS s⟩;have h3 := hu.seq;exact q15.2 ⟨hr.withS (by omega) hle, by show consC (q0k u).Votes = true; rw [g4]; exact hc⟩
theorem qn0 {v : Voter} (hv : q2e v = true) : Step v v := ⟨rfl, .inl rfl, fun _ h => h, fun _ h => h, fun _ h => h, fun _ => hv, (q15.1 hv).1.small⟩
theorem qwz {v : Voter} (hv : q2e v = true) {x : Claim} (h : (voteV v x).2 = 0) : Step v (voteV v x).1 /\ (voteV v x).1.Heard = v.Heard /\ (voteV v x).1.Trust = v.Trust := by
 obtain ⟨hr, hc⟩ := q15.1 hv;unfold voteV at h ⊢;split at h
 .simp at h
 .rename_i h1;rw [if_neg h1];split at h
  .simp at h
  .rename_i h2;rw [if_neg h2];split
   .exact ⟨qn0 hv, rfl, rfl⟩
   .have hx : vcl x = true := by cases hx : vcl x with | true => rfl | false => exact absurd (.inr hx) h1
    have hm := fun y => qi3 (y := y) (q0w.1 hr.votes).1 hx
    refine ⟨qhs (hr.withV x) ?_ rfl rfl (fun y hy => (hm y).2 (.inl hy)) rfl rfl, ?_, ?_⟩
    .have : consC (v.Votes ++ [x]) = true := by
      rw [qdt hc, dT'];exact fun y hy hcc => h2 ⟨y, by simp [hy], hcc⟩
     rw [q4u] at this ⊢;intro a ha b hb;exact this a (q1g.1 ha).2 b (q1g.1 hb).2
    .obtain ⟨s, _, h4, _⟩ := q5n v { v with Votes := q0j (v.Votes ++ [x]) }
     dsimp only
     rw [h4]; exact (q39 _).2.2.2.2
    .obtain ⟨s, _, h4, _⟩ := q5n v { v with Votes := q0j (v.Votes ++ [x]) }
     dsimp only
     rw [h4]; exact (q39 _).2.2.1
theorem qxu {v : Voter} (hv : q2e v = true) {t : Trust} (h : (declV v t).2 = 0) : Step v (declV v t).1 /\ (declV v t).1.Heard = v.Heard := by
 obtain ⟨hr, hc⟩ := q15.1 hv;unfold declV at h ⊢;rw [if_neg (by rw [hv]; simp)] at h ⊢;split at h
 .rename_i h1; exact absurd h h1
 .rename_i h1;rw [if_neg h1];split
  .exact ⟨qn0 hv, rfl⟩
  .refine ⟨qhs (hr.withT ((q4f t).1 (by simpa using h1))) hc rfl rfl (fun _ h => h) rfl rfl, ?_⟩;obtain ⟨s, _, h4, _⟩ := q5n v { v with Trust := t }
   dsimp only
   rw [h4]; exact (q39 _).2.2.2.2
theorem y4p {v : Voter} (hv : q2e v = true) {m : Message} (hm : msgB m = true) (hn : m.Node ≠ v.Node) (ho : oldB v.Heard m = false) : hearV v m = (turnV v { v with Heard := hearL m v.Heard }, 0) := by
 unfold hearV;rw [if_neg (by rintro (h | h | h); rw [hv] at h; cases h; rw [hm] at h; cases h; exact hn h), if_neg (by rw [ho]; simp)]
theorem qwb {v : Voter} {m : Message} (h : (hearV v m).2 = 0) : msgB m = true /\ m.Node ≠ v.Node /\ oldB v.Heard m = false := by
 unfold hearV at h;split at h
 .simp at h
 .rename_i h1;split at h
  .simp at h
  .rename_i h2;refine ⟨?_, fun e => h1 (.inr (.inr e)), ?_⟩
   .cases hm : msgB m with | true => rfl | false => exact absurd (.inr (.inl hm)) h1
   .cases ho : oldB v.Heard m with | false => rfl | true => exact absurd ho h2
theorem qw1 {v : Voter} (hv : q2e v = true) {m : Message} (h : (hearV v m).2 = 0) : Step v (hearV v m).1 /\ (hearV v m).1.Heard = hearL m v.Heard := by
 obtain ⟨hr, hc⟩ := q15.1 hv;obtain ⟨h1, h2, h3⟩ := qwb h;rw [y4p hv h1 h2 h3];refine ⟨qhs (hr.withH h1 h2) hc rfl rfl (fun _ h => h) rfl rfl, ?_⟩;obtain ⟨s, _, h4, _⟩ := q5n v { v with Heard := hearL m v.Heard }
 dsimp only
 rw [h4]; exact (q39 _).2.2.2.2
theorem q2p : SmallV q52 := ⟨by simp [q52, Small, size, sizes], by simp [q52], by simp [q52], by simp [q52], by simp [q52], fun m hm => by cases hm⟩
theorem qe0 {b u : Voter} (hu : Ready u) : SmallV (turnV b u) := by
 obtain ⟨s, _, h2, _⟩ := q5n b u;rw [h2]; exact hu.settle.smallS s
theorem qjo {v : Voter} (hs : SmallV v) (x : Claim) : SmallV (voteV v x).1 := by
 unfold voteV;split
 .exact q2p
 .rename_i h;split
  .exact q2p
  .split
   .exact hs
   .refine qe0 (Ready.withV (q15.1 ?_).1 x);cases hv : q2e v with | true => rfl | false => exact absurd (.inl hv) h
theorem quf {v : Voter} (hs : SmallV v) (t : Trust) : SmallV (declV v t).1 := by
 unfold declV;split
 .exact q2p
 .rename_i h;split
  .exact q2p
  .rename_i h1;split
   .exact hs
   .refine qe0 (Ready.withT (q15.1 ?_).1 ((q4f t).1 (by simpa using h1)));cases hv : q2e v with | true => rfl | false => exact absurd hv h
theorem qtp {v : Voter} (m : Message) : SmallV (hearV v m).1 := by
 unfold hearV;split
 .exact q2p
 .rename_i h;split
  .exact q2p
  .refine qe0 (Ready.withH (q15.1 ?_).1 ?_ fun e => h (.inr (.inr e)))
   .cases hv : q2e v with | true => rfl | false => exact absurd (.inl hv) h
   .cases hm : msgB m with | true => rfl | false => exact absurd (.inr (.inl hm)) h
theorem qq4 (n : Int) {t : Trust} (ht : Small t) : SmallV (qdb n t).1 := by
 unfold qdb;split
 .exact q2p
 .split
  .exact q2p
  .exact ⟨ht, by simp, by simp, by simp, by simp, fun m hm => by cases hm⟩
theorem qik {n : Int} {t : Trust} (hn : inR n = true) (ht : valid t = true) : qdb n t = (⟨n, 1, t, [], [], [], []⟩, 0) /\ q2e ⟨n, 1, t, [], [], [], []⟩ = true := by
 constructor
 .rw [qdb, if_neg (by rw [hn]; simp), if_neg (by rw [(q4f t).2 ht]; simp)]
 .rw [q15];exact ⟨⟨hn, ⟨by show (1 : Int) <= 1; omega, by show (1 : Int) <= 1000000; omega⟩, ht, rfl, rfl, rfl, by simp [consC], (fun x hx => by cases hx), rfl⟩, by simp [consC]⟩
theorem qtl (v : Voter) : sameV v v = true := qvz.2 rfl
def exT : Trust := ⟨1, [3], []⟩
def exV : Voter := ⟨3, 1, exT, [], [], [], []⟩
def exU : Voter := ⟨3, 1, exT, [⟨1, 2⟩], [], [], []⟩
theorem qoc : (q0k exU).Accepts = [⟨1, 2⟩] /\ (q0k exU).Confirms = [⟨1, 2⟩] := by decide +kernel
theorem qc1 : valid exT = true /\ q2e exV = true := by decide +kernel
theorem y9t : q0j ([] ++ [⟨1, 2⟩]) = [(⟨1, 2⟩ : Claim)] := by decide +kernel
theorem y4s : turnV exV exU = ⟨3, 2, exT, [⟨1, 2⟩], [⟨1, 2⟩], [⟨1, 2⟩], []⟩ := by
 obtain ⟨h1, h2, h3, h4, h5⟩ := q39 exU;rw [turnV, if_neg (by rw [h4]; rintro ⟨_, h, _⟩; simp [exV, exU] at h), h2];have e : q0k exU = ⟨(q0k exU).Node, (q0k exU).Seq, (q0k exU).Trust, (q0k exU).Votes, (q0k exU).Accepts, (q0k exU).Confirms, (q0k exU).Heard⟩ := rfl;rw [e, h1, h3, h4, h5, qoc.1, qoc.2];rfl
theorem y4v : voteV exV ⟨1, 2⟩ = (⟨3, 2, exT, [⟨1, 2⟩], [⟨1, 2⟩], [⟨1, 2⟩], []⟩, 0) := by
 have hw : ({ exV with Votes := q0j (exV.Votes ++ [⟨1, 2⟩]) } : Voter) = exU := by
  show (⟨3, 1, exT, q0j ([] ++ [⟨1, 2⟩]), [], [], []⟩ : Voter) = exU;rw [y9t]; rfl
 rw [voteV, if_neg (by rw [qc1.2]; decide), if_neg (by simp [exV]), if_neg (by simp [exV]), hw, y4s]
theorem qze : (voteV ⟨3, 2, exT, [⟨1, 2⟩], [⟨1, 2⟩], [⟨1, 2⟩], []⟩ ⟨1, 3⟩).2 = 14 := by
 have : q2e ⟨3, 2, exT, [⟨1, 2⟩], [⟨1, 2⟩], [⟨1, 2⟩], []⟩ = true := by decide +kernel
 rw [voteV, if_neg (by rw [this]; decide), if_pos ⟨⟨1, 2⟩, by simp, by decide⟩]
theorem qls {l : List Int} {i : Int} (h : q0s l i) : ∃ x j, z71 l i = some (x, l, j) /\ q0s l j := by
 obtain ⟨x0, i0, g0, g0', g0'x, g0''⟩ := N_ok (n := 30) (by omega) (by omega) h;by_cases e : x0 = 29
 .obtain ⟨x1, i1, g1, _, g1'⟩ := q6i (ps := [-1, 0, 7, 8]) (by decide) (by decide) g0'';obtain ⟨x2, i2, g2, _, g2'⟩ := q6i (ps := [-1, 0, 15, 16]) (by decide) (by decide) g1';refine ⟨⟨x1, x2⟩, i2, y23 _ _ _ ?_, g2'⟩;rw [g0, bS]
  dsimp only
  rw [e, q0z, cT, g1, bS]
  dsimp only
  rw [g2]; rfl
 .obtain ⟨x1, i1, g1, _, _, g1'⟩ := N_ok (n := 3) (by omega) (by omega) g0'';obtain ⟨x2, i2, g2, _, _, g2'⟩ := N_ok (n := 3) (by omega) (by omega) g1';refine ⟨⟨x1, x2⟩, i2, y23 _ _ _ ?_, g2'⟩;rw [g0, bS]
  dsimp only
  rw [q0o e, cF, g1, bS]
  dsimp only
  rw [g2]; rfl
theorem qnd {l : List Int} : ∀ (n : Nat) (acc : List Claim) (i : Int), n + acc.length <= 1000 -> q0s l i -> ∃ k j, z5w acc (n : Int) l i = some (k, l, j) /\ k.length <= n + acc.length /\ q0s l j
 | 0, acc, i, ha, h => ⟨acc, i, y3i _ _ _ _ _ (by rw [q01 (by omega)]; rfl), by omega, h⟩
 | n + 1, acc, i, ha, h => by
  obtain ⟨x, i1, g1, g1'⟩ := qls h;obtain ⟨k, j, g2, g3, g4⟩ := qnd n (acc ++ [x]) i1 (by simp; omega) g1';refine ⟨k, j, y3i _ _ _ _ _ ?_, by simp at g3; omega, g4⟩;rw [q04 (by omega), cT, g1, bS, q0a (by simp [q07]; omega), q23 (by omega) (by omega), show ((n + 1 : Nat) : Int) - 1 = (n : Int) by omega];exact g2
theorem q6w {n : Nat} (hn : n <= 100) {l : List Int} {i : Int} (h : q0s l i) : ∃ k j, z2n (n : Int) l i = some (k, l, j) /\ k.length <= n /\ q0s l j := by
 obtain ⟨x0, i0, g0, g0', g0'x, g0''⟩ := N_ok (n := (n : Int) + 1) (by omega) (by omega) h;obtain ⟨m, rfl⟩ : ∃ m : Nat, x0 = m := ⟨x0.toNat, by omega⟩;obtain ⟨k, j, g1, g2, g3⟩ := qnd (l := l) m [] i0 (by simp; omega) g0'';refine ⟨k, j, yaf _ _ _ _ ?_, by simp at g2; omega, g3⟩;rw [q28 (by omega) (by omega), g0, bS];exact g1
theorem qc4 {n : Int} (h1 : 1 <= n) (h2 : n <= 10) {l : List Int} {i : Int} (h : q0s l i) : ∃ t j, z68 n 2 l i = some (t, l, j) /\ valid t = true /\ q0s l j := by
 obtain ⟨t, j, g1, g2, _, g4⟩ := y08 h1 h2 1 (by decide) h;exact ⟨t, j, g1, g2.1, g4⟩
structure DrawnM (n : Int) (m : Message) : Prop where
 msg : msgB m = true
 node : 0 <= m.Node /\ m.Node < n
 seq : 1 <= m.Seq /\ m.Seq <= 5
theorem qe4 {n : Int} (h1 : 1 <= n) (h2 : n <= 10) {l : List Int} {i : Int} (h : q0s l i) : ∃ m j, z62 n l i = some (m, l, j) /\ DrawnM n m /\ q0s l j := by
 obtain ⟨x0, i0, g0, g0', g0'x, a0⟩ := N_ok (n := n) (by omega) (by omega) h;obtain ⟨x1, i1, g1, g1', g1'x, a1⟩ := qa1 (a := 1) (b := 5) (by omega) (by omega) (by omega) a0;obtain ⟨t, i2, g2, g2', a2⟩ := qc4 h1 h2 a1;obtain ⟨k, i3, g3, g3', a3⟩ := q6w (n := 3) (by omega) a2;obtain ⟨q, i4, g4, g4', a4⟩ := q6w (n := 2) (by omega) a3;have g3 : z2n 3 l i2 = some (k, l, i3) := g3;have g4 : z2n 2 l i3 = some (q, l, i4) := g4;refine ⟨⟨x0, x1, t, q0j k, q0j q⟩, i4, yal _ _ _ _ ?_, ⟨q1x.2 ⟨by simp [inR]; omega, by show 1 <= x1; omega, g2', q1i _, q1i _⟩, by dsimp only; omega, by dsimp only; omega⟩, a4⟩;rw [g0, bS]
 dsimp only
 rw [g1, bS]
 dsimp only
 rw [g2, bS]
 dsimp only
 rw [g3, bS]
 dsimp only
 rw [q5l k (by omega), bS, g4, bS]
 dsimp only
 rw [q5l q (by omega), bS, Trust.etaM]
theorem DrawnM.later {n : Int} {m : Message} (h : DrawnM n m) {k : Int} (h0 : 0 <= k) (hk : k <= 100000) : addI .i64 m.Seq k = m.Seq + k /\ msgB ⟨m.Node, m.Seq + k, m.Trust, m.Votes, m.Accepts⟩ = true := by
 have := h.seq;obtain ⟨h1, h2, h3, h4, h5⟩ := q1x.1 h.msg;exact ⟨q28 (by omega) (by omega), q1x.2 ⟨h1, by show 1 <= m.Seq + k; omega, h3, h4, h5⟩⟩
structure Gone (v : Voter) (k : Nat) : Prop where
 valid : q2e v = true
 seq : v.Seq <= (k : Int) + 1
theorem Gone.step {v w : Voter} {k : Nat} (h : Gone v k) (hk : k < 1000) (hs : Step v w) : Gone w (k + 1) := by
 have := h.seq;have := hs.seq;exact ⟨hs.ready (by omega), by omega⟩
theorem Gone.up {v : Voter} {k : Nat} (h : Gone v k) : Gone v (k + 1) := ⟨h.valid, by have := h.seq; omega⟩
theorem qs5 {l : List Int} (d1 d2 d3 : Int) (d4 : List Int) (d5 : List Trust) (d6 d7 d8 : List Claim) (d9 : List Message) : ∀ (n k : Nat) (v : Voter) (i : Int), n + k <= 900 -> Gone v k -> q0s l i ->
  ∃ w j, z1h 4 (n : Int) l i d1 d2 d3 d4 d5 d6 d7 d8 d9 v.Node v.Seq v.Trust.Threshold v.Trust.Nodes v.Trust.Inner v.Votes v.Accepts v.Confirms v.Heard = some (w, l, j) /\ Gone w (n + k) /\ q0s l j
 | 0, k, v, i, hk, hv, h => ⟨v, i, qrx _ _ _ _ _ _ _ _ _ _ _ _ _ _ _ _ _ _ _ _ _ _ _ (by rw [q01 (by omega), cF, q0t]), by rw [Nat.zero_add]; exact hv, h⟩
 | n + 1, k, v, i, hk, hv, h => by
  have hs := (q15.1 hv.valid).1.small;have fin : ∀ (w : Voter) (j : Int), Gone w (k + 1) -> q0s l j -> (∀ r, z1h 4 (subI .i64 ((n + 1 : Nat) : Int) 1) l j d1 d2 d3 d4 d5 d6 d7 d8 d9 w.Node w.Seq w.Trust.Threshold w.Trust.Nodes w.Trust.Inner w.Votes w.Accepts w.Confirms w.Heard = some r ->
    z1h 4 ((n + 1 : Nat) : Int) l i d1 d2 d3 d4 d5 d6 d7 d8 d9 v.Node v.Seq v.Trust.Threshold v.Trust.Nodes v.Trust.Inner v.Votes v.Accepts v.Confirms v.Heard = some r) ->
    ∃ w j, z1h 4 ((n + 1 : Nat) : Int) l i d1 d2 d3 d4 d5 d6 d7 d8 d9 v.Node v.Seq v.Trust.Threshold v.Trust.Nodes v.Trust.Inner v.Votes v.Accepts v.Confirms v.Heard = some (w, l, j) /\ Gone w (n + 1 + k) /\ q0s l j := by
   intro w j hw hj hr;obtain ⟨w', j', g1, g2, g3⟩ := qs5 d1 d2 d3 d4 d5 d6 d7 d8 d9 n (k + 1) w j (by omega) hw hj;rw [q23 (by omega) (by omega), show ((n + 1 : Nat) : Int) - 1 = (n : Int) by omega] at hr;exact ⟨w', j', hr _ g1, by rw [show n + 1 + k = n + (k + 1) by omega]; exact g2, g3⟩
  obtain ⟨x0, i0, g0, g0', g0'x, a0⟩ := N_ok (n := 6) (by omega) (by omega) h;by_cases e0 : x0 = 0
  .obtain ⟨x, i1, g1, a1⟩ := qls a0;have step : ∀ r, (bif eqB (voteV v x).2 0 then z1h 4 (subI .i64 ((n + 1 : Nat) : Int) 1) l i1 d1 d2 d3 d4 d5 d6 d7 d8 d9 (voteV v x).1.Node (voteV v x).1.Seq (voteV v x).1.Trust.Threshold (voteV v x).1.Trust.Nodes (voteV v x).1.Trust.Inner (voteV v x).1.Votes (voteV v x).1.Accepts (voteV v x).1.Confirms (voteV v x).1.Heard
     else z1h 4 (subI .i64 ((n + 1 : Nat) : Int) 1) l i1 d1 d2 d3 d4 d5 d6 d7 d8 d9 v.Node v.Seq v.Trust.Threshold v.Trust.Nodes v.Trust.Inner v.Votes v.Accepts v.Confirms v.Heard) = some r -> z1h 4 ((n + 1 : Nat) : Int) l i d1 d2 d3 d4 d5 d6 d7 d8 d9 v.Node v.Seq v.Trust.Threshold v.Trust.Nodes v.Trust.Inner v.Votes v.Accepts v.Confirms v.Heard = some r := by
    intro r hr;apply qrx;rw [q04 (by omega), cT, g0, bS]
    dsimp only
    rw [e0, q0z, cT, g1, bS]
    dsimp only
    rw [q0t, qmp hs, bS];exact hr
   by_cases e : (voteV v x).2 = 0
   .refine fin (voteV v x).1 i1 (hv.step (by omega) (qwz hv.valid e).1) a1 (fun r hr => step r ?_);rw [e, q0z, cT]; exact hr
   .refine fin v i1 hv.up a1 (fun r hr => step r ?_);rw [q0o e, cF]; exact hr
  .by_cases e1 : x0 = 1
   .obtain ⟨t, i1, g1, g1', a1⟩ := qc4 (n := 4) (by omega) (by omega) a0;have step : ∀ r, (bif eqB (declV v t).2 0 then z1h 4 (subI .i64 ((n + 1 : Nat) : Int) 1) l i1 d1 d2 d3 d4 d5 d6 d7 d8 d9 (declV v t).1.Node (declV v t).1.Seq (declV v t).1.Trust.Threshold (declV v t).1.Trust.Nodes (declV v t).1.Trust.Inner (declV v t).1.Votes (declV v t).1.Accepts (declV v t).1.Confirms (declV v t).1.Heard
      else z1h 4 (subI .i64 ((n + 1 : Nat) : Int) 1) l i1 d1 d2 d3 d4 d5 d6 d7 d8 d9 v.Node v.Seq v.Trust.Threshold v.Trust.Nodes v.Trust.Inner v.Votes v.Accepts v.Confirms v.Heard) = some r -> z1h 4 ((n + 1 : Nat) : Int) l i d1 d2 d3 d4 d5 d6 d7 d8 d9 v.Node v.Seq v.Trust.Threshold v.Trust.Nodes v.Trust.Inner v.Votes v.Accepts v.Confirms v.Heard = some r := by
     intro r hr;apply qrx;rw [q04 (by omega), cT, g0, bS]
     dsimp only
     rw [q0o e0, cF, e1, q0z, cT, g1, bS]
     dsimp only
     rw [q0t, qmg hs (q2c g1'), bS];exact hr
    by_cases e : (declV v t).2 = 0
    .refine fin (declV v t).1 i1 (hv.step (by omega) (qxu hv.valid e).1) a1 (fun r hr => step r ?_);rw [e, q0z, cT]; exact hr
    .refine fin v i1 hv.up a1 (fun r hr => step r ?_);rw [q0o e, cF]; exact hr
   .obtain ⟨m, i1, g1, g1', a1⟩ := qe4 (n := 4) (by omega) (by omega) a0;obtain ⟨q1, q2⟩ := g1'.later (k := ((n + 1 : Nat) : Int)) (by omega) (by omega)
    let u : Message := ⟨m.Node, m.Seq + ((n + 1 : Nat) : Int), m.Trust, m.Votes, m.Accepts⟩
    have step : ∀ r, (bif eqB (hearV v u).2 0 then z1h 4 (subI .i64 ((n + 1 : Nat) : Int) 1) l i1 d1 d2 d3 d4 d5 d6 d7 d8 d9 (hearV v u).1.Node (hearV v u).1.Seq (hearV v u).1.Trust.Threshold (hearV v u).1.Trust.Nodes (hearV v u).1.Trust.Inner (hearV v u).1.Votes (hearV v u).1.Accepts (hearV v u).1.Confirms (hearV v u).1.Heard
      else z1h 4 (subI .i64 ((n + 1 : Nat) : Int) 1) l i1 d1 d2 d3 d4 d5 d6 d7 d8 d9 v.Node v.Seq v.Trust.Threshold v.Trust.Nodes v.Trust.Inner v.Votes v.Accepts v.Confirms v.Heard) = some r -> z1h 4 ((n + 1 : Nat) : Int) l i d1 d2 d3 d4 d5 d6 d7 d8 d9 v.Node v.Seq v.Trust.Threshold v.Trust.Nodes v.Trust.Inner v.Votes v.Accepts v.Confirms v.Heard = some r := by
     intro r hr;apply qrx;rw [q04 (by omega), cT, g0, bS]
     dsimp only
     rw [q0o e0, cF, q0o e1, cF, g1, bS]
     dsimp only
     rw [q0t, q1, Trust.etaM];have := qn7 hs (q11 q2);rw [this, bS];exact hr
    by_cases e : (hearV v u).2 = 0
    .refine fin (hearV v u).1 i1 (hv.step (by omega) (qw1 hv.valid e).1) a1 (fun r hr => step r ?_);rw [e, q0z, cT]; exact hr
    .refine fin v i1 hv.up a1 (fun r hr => step r ?_);rw [q0o e, cF]; exact hr
theorem y0d {l : List Int} {i : Int} (h : q0s l i) : ∃ v j, z7k 4 8 l i = some (v, l, j) /\ Gone v 8 /\ q0s l j := by
 obtain ⟨x0, i0, g0, g0', g0'x, a0⟩ := N_ok (n := 4) (by omega) (by omega) h;obtain ⟨t, i1, g1, g1', a1⟩ := qc4 (n := 4) (by omega) (by omega) a0;obtain ⟨x2, i2, g2, g2', g2'x, a2⟩ := N_ok (n := 9) (by omega) (by omega) a1;obtain ⟨s1, s2⟩ := qik (n := x0) (by simp [inR]; omega) g1';obtain ⟨m, rfl⟩ : ∃ m : Nat, x2 = m := ⟨x2.toNat, by omega⟩;obtain ⟨w, j, q1, q2, q3⟩ := qs5 (l := l) 0 0 0 [] [] [] [] [] [] m 0 ⟨x0, 1, t, [], [], [], []⟩ i2 (by omega) ⟨s2, by show (1 : Int) <= _; omega⟩ a2;refine ⟨w, j, y73 _ _ _ _ _ ?_, ⟨q2.valid, by have := q2.seq; omega⟩, q3⟩;rw [g0, bS]
 dsimp only
 rw [g1, bS]
 dsimp only
 rw [qk9 x0 (q2c g1'), s1, bS, show addI .i64 8 1 = 9 from rfl, g2, bS];exact q1
theorem quc {t : Trust} (h : valid t = true) : size t < 1000000 /\ wf t = true := ⟨by have := qkb h; omega, (q2n h).2⟩
theorem qrt {t : Trust} (h : valid t = true) {l : List Int} {i : Int} (ht : q0s l i) : ∃ y j, z3p t l i = some (y, l, j) /\ Fits y /\ q0s l j := by
 obtain ⟨h1, h2⟩ := quc h;have := qkb h;obtain ⟨y, j, g1, g2, _, g4⟩ := y4d t h1 h2 i ht;exact ⟨y, j, g1, by unfold Fits; omega, g4⟩
theorem qst {m : Message} (hm : msgB m = true) (_hq : m.Seq <= 1000000) {l : List Int} {i : Int} (h : q0s l i) : ∃ y j, z2v m l i = some (y, l, j) /\ SmallM y /\ q0s l j := by
 obtain ⟨m1, m2, m3, m4, m5⟩ := q1x.1 hm;have hs := q11 hm;obtain ⟨x0, i0, g0, g0', g0'x, a0⟩ := N_ok (n := 5) (by omega) (by omega) h;by_cases e0 : x0 = 0
 .obtain ⟨x1, i1, g1, _, a1⟩ := q6i (ps := [-1, 9, 10]) (by decide) (by decide) a0;refine ⟨⟨x1, m.Seq, m.Trust, m.Votes, m.Accepts⟩, i1, qne _ _ _ _ ?_, ⟨hs.tr, hs.votes, hs.accs⟩, a1⟩;rw [g0, bS]
  dsimp only
  rw [e0, q0z, cT, g1, bS, Trust.etaM]
 by_cases e1 : x0 = 1
 .obtain ⟨x1, i1, g1, _, a1⟩ := q6i (ps := [0, -1, addI .i64 m.Seq 1]) (by simp) (by simp) a0;refine ⟨⟨m.Node, x1, m.Trust, m.Votes, m.Accepts⟩, i1, qne _ _ _ _ ?_, ⟨hs.tr, hs.votes, hs.accs⟩, a1⟩;rw [g0, bS]
  dsimp only
  rw [q0o e0, cF, e1, q0z, cT, g1, bS, Trust.etaM]
 by_cases e2 : x0 = 2
 .obtain ⟨y, i1, g1, g1', a1⟩ := qrt m3 a0;refine ⟨⟨m.Node, m.Seq, y, m.Votes, m.Accepts⟩, i1, qne _ _ _ _ ?_, ⟨g1'.small, hs.votes, hs.accs⟩, a1⟩;rw [g0, bS]
  dsimp only
  rw [q0o e0, cF, q0o e1, cF, e2, q0z, cT, g1, bS, Trust.etaM]
 obtain ⟨k, i1, g1, g1', a1⟩ := q6w (n := 4) (by omega) a0;have g1 : z2n 4 l i0 = some (k, l, i1) := g1;by_cases e3 : x0 = 3
 .refine ⟨⟨m.Node, m.Seq, m.Trust, k, m.Accepts⟩, i1, qne _ _ _ _ ?_, ⟨hs.tr, by show k.length < _; omega, hs.accs⟩, a1⟩;rw [g0, bS]
  dsimp only
  rw [q0o e0, cF, q0o e1, cF, q0o e2, cF, e3, q0z, cT, g1, bS, Trust.etaM]
 .refine ⟨⟨m.Node, m.Seq, m.Trust, m.Votes, k⟩, i1, qne _ _ _ _ ?_, ⟨hs.tr, hs.votes, by show k.length < _; omega⟩, a1⟩;rw [g0, bS]
  dsimp only
  rw [q0o e0, cF, q0o e1, cF, q0o e2, cF, q0o e3, cF, g1, bS, Trust.etaM]
theorem qz0 {v : Voter} (hv : Ready v) {l : List Int} {i : Int} (h : q0s l i) : ∃ y j, z2t v l i = some (y, l, j) /\ (SmallV y /\ Fits y.Trust) /\ q0s l j := by
 have hs := hv.small;have hf := (q2n hv.tr).1;have hh := hv.hlen;obtain ⟨x0, i0, g0, g0', g0'x, a0⟩ := N_ok (n := 8) (by omega) (by omega) h;by_cases e0 : x0 = 0
 .obtain ⟨x1, i1, g1, _, a1⟩ := q6i (ps := [-1, 9, 10, v.Node]) (by simp) (by simp) a0;refine ⟨⟨x1, v.Seq, v.Trust, v.Votes, v.Accepts, v.Confirms, v.Heard⟩, i1, qf1 _ _ _ _ ?_, ⟨⟨hs.tr, hs.votes, hs.accs, hs.confs, hs.heard, hs.msgs⟩, hf⟩, a1⟩;rw [g0, bS]
  dsimp only
  rw [e0, q0z, cT, g1, bS, Trust.etaM]
 by_cases e1 : x0 = 1
 .obtain ⟨x1, i1, g1, _, a1⟩ := q6i (ps := [0, 1000000, 1000001]) (by simp) (by simp) a0;refine ⟨⟨v.Node, x1, v.Trust, v.Votes, v.Accepts, v.Confirms, v.Heard⟩, i1, qf1 _ _ _ _ ?_, ⟨⟨hs.tr, hs.votes, hs.accs, hs.confs, hs.heard, hs.msgs⟩, hf⟩, a1⟩;rw [g0, bS]
  dsimp only
  rw [q0o e0, cF, e1, q0z, cT, g1, bS, Trust.etaM]
 by_cases e2 : x0 = 2
 .obtain ⟨y, i1, g1, g1', a1⟩ := qrt hv.tr a0;refine ⟨⟨v.Node, v.Seq, y, v.Votes, v.Accepts, v.Confirms, v.Heard⟩, i1, qf1 _ _ _ _ ?_, ⟨⟨g1'.small, hs.votes, hs.accs, hs.confs, hs.heard, hs.msgs⟩, g1'⟩, a1⟩;rw [g0, bS]
  dsimp only
  rw [q0o e0, cF, q0o e1, cF, e2, q0z, cT, g1, bS, Trust.etaM]
 by_cases e3 : x0 = 3
 .obtain ⟨k, i1, g1, g1', a1⟩ := q6w (n := 4) (by omega) a0;have g1 : z2n 4 l i0 = some (k, l, i1) := g1;refine ⟨⟨v.Node, v.Seq, v.Trust, k, v.Accepts, v.Confirms, v.Heard⟩, i1, qf1 _ _ _ _ ?_, ⟨⟨hs.tr, by show k.length < _; omega, hs.accs, hs.confs, hs.heard, hs.msgs⟩, hf⟩, a1⟩;rw [g0, bS]
  dsimp only
  rw [q0o e0, cF, q0o e1, cF, q0o e2, cF, e3, q0z, cT, g1, bS, Trust.etaM]
 by_cases e4 : x0 = 4
 .obtain ⟨k, i1, g1, g1', a1⟩ := q6w (n := 4) (by omega) a0;have g1 : z2n 4 l i0 = some (k, l, i1) := g1;refine ⟨⟨v.Node, v.Seq, v.Trust, v.Votes, q0j k, v.Confirms, v.Heard⟩, i1, qf1 _ _ _ _ ?_, ⟨⟨hs.tr, hs.votes, by have := q2t k; show (q0j k).length < _; omega, hs.confs, hs.heard, hs.msgs⟩, hf⟩, a1⟩;rw [g0, bS]
  dsimp only
  rw [q0o e0, cF, q0o e1, cF, q0o e2, cF, q0o e3, cF, e4, q0z, cT, g1, bS]
  dsimp only
  rw [q5l k (by omega), bS, Trust.etaM]
 by_cases e5 : x0 = 5
 .obtain ⟨k, i1, g1, g1', a1⟩ := q6w (n := 2) (by omega) a0;have g1 : z2n 2 l i0 = some (k, l, i1) := g1;refine ⟨⟨v.Node, v.Seq, v.Trust, v.Votes, v.Accepts, q0j k, v.Heard⟩, i1, qf1 _ _ _ _ ?_, ⟨⟨hs.tr, hs.votes, hs.accs, by have := q2t k; show (q0j k).length < _; omega, hs.heard, hs.msgs⟩, hf⟩, a1⟩;rw [g0, bS]
  dsimp only
  rw [q0o e0, cF, q0o e1, cF, q0o e2, cF, q0o e3, cF, q0o e4, cF, e5, q0z, cT, g1, bS]
  dsimp only
  rw [q5l k (by omega), bS, Trust.etaM]
 obtain ⟨m, i1, g1, g1', a1⟩ := qe4 (n := 10) (by omega) (by omega) a0;have hms := q11 g1'.msg;by_cases e6 : x0 = 6
 .refine ⟨⟨v.Node, v.Seq, v.Trust, v.Votes, v.Accepts, v.Confirms, v.Heard ++ [m]⟩, i1, qf1 _ _ _ _ ?_, ⟨⟨hs.tr, hs.votes, hs.accs, hs.confs, by simp; omega, fun x hx => by
   rcases List.mem_append.1 hx with hx | hx
   .exact hs.msgs x hx
   .simp at hx; subst hx; exact hms⟩, hf⟩, a1⟩
  rw [g0, bS]
  dsimp only
  rw [q0o e0, cF, q0o e1, cF, q0o e2, cF, q0o e3, cF, q0o e4, cF, q0o e5, cF, e6, q0z, cT, q0a (by simp [q07]; omega), g1, bS]
  dsimp only
  rw [q0a (by simp [q07]; omega), Trust.etaM, Trust.etaM]; rfl
 .obtain ⟨y, i2, g2, g2', a2⟩ := qst g1'.msg (by have := g1'.seq; omega) a1;refine ⟨⟨v.Node, v.Seq, v.Trust, v.Votes, v.Accepts, v.Confirms, [y] ++ v.Heard⟩, i2, qf1 _ _ _ _ ?_, ⟨⟨hs.tr, hs.votes, hs.accs, hs.confs, by simp; omega, fun x hx => by
   rcases List.mem_append.1 hx with hx | hx
   .simp at hx; subst hx; exact g2'
   .exact hs.msgs x hx⟩, hf⟩, a2⟩
  rw [g0, bS]
  dsimp only
  rw [q0o e0, cF, q0o e1, cF, q0o e2, cF, q0o e3, cF, q0o e4, cF, q0o e5, cF, q0o e6, cF, g1, bS]
  dsimp only
  rw [g2, bS]
  dsimp only
  rw [q0a (by simp [q07]; omega), Trust.etaM, Trust.etaM]
theorem qkw : law19_awake = some true := by
 have ht : Small (⟨1, [3], []⟩ : Trust) := q2c qc1.1;have hs : qdb 3 ⟨1, [3], []⟩ = (exV, 0) := (qik (n := 3) (t := exT) rfl qc1.1).1;have h1 := (q15.1 qc1.2).1;have hv : voteV exV ⟨1, 2⟩ = _ := y4v;have h2 : SmallV ⟨3, 2, exT, [⟨1, 2⟩], [⟨1, 2⟩], [⟨1, 2⟩], []⟩ := by have := qjo h1.small ⟨1, 2⟩; rw [hv] at this; exact this
 apply law19_awake_le;rw [qje 3 ht, hs, bS]
 dsimp only
 rw [qi8 h1.small, hv, bS]
 dsimp only
 rw [qi8 h2, bS, qze, qrb (q2n qc1.1).1 (by simp) (by simp)];rfl
structure Played (v : Voter) (k : Nat) : Prop where
 gone : Gone v k
 node : 0 <= v.Node /\ v.Node < 4
 late : ∀ m ∈ v.Heard, m.Seq <= 5 * (k : Int) + 5
theorem Played.up {v : Voter} {k : Nat} (h : Played v k) : Played v (k + 1) := ⟨h.gone.up, h.node, fun m hm => by have := h.late m hm; omega⟩
theorem qg2 {v : Voter} (h : SmallV v) : z48 v v = some true := by rw [qhi h, qtl]
section
variable (n0 : Int) (ws : List Voter) (c i : Int) (raw : Voter) (m : Message) (x : Claim) (y : Trust) (v : Voter) (z : Message) {l : List Int}
theorem y1q {w : Voter} (hw : SmallV w) (R : Bool) (L : List Trust) (hL : L.length < 1000) (hk : ∀ t ∈ L, Small t) (j : Int)
  (hnext : z1r n0 ws c (addI .i64 i 1) raw.Node raw.Seq raw.Trust.Threshold raw.Trust.Nodes raw.Trust.Inner raw.Votes raw.Accepts raw.Confirms raw.Heard m.Node m.Seq m.Trust.Threshold m.Trust.Nodes m.Trust.Inner m.Votes m.Accepts x.Topic x.Value y.Threshold y.Nodes y.Inner l j v.Node v.Seq v.Trust.Threshold v.Trust.Nodes v.Trust.Inner v.Votes v.Accepts v.Confirms v.Heard z.Node z.Seq z.Trust.Threshold z.Trust.Nodes z.Trust.Inner z.Votes z.Accepts = some R) :
  ∀ (suf : List Trust) (k : Nat), L.drop k = suf ->
  z2b n0 ws c i L ((L.length : Nat) : Int) (k : Int) raw.Node raw.Seq raw.Trust.Threshold raw.Trust.Nodes raw.Trust.Inner raw.Votes raw.Accepts raw.Confirms raw.Heard m.Node m.Seq m.Trust.Threshold m.Trust.Nodes m.Trust.Inner m.Votes m.Accepts x.Topic x.Value y.Threshold y.Nodes y.Inner l j v.Node v.Seq v.Trust.Threshold v.Trust.Nodes v.Trust.Inner v.Votes v.Accepts v.Confirms v.Heard z.Node z.Seq z.Trust.Threshold z.Trust.Nodes z.Trust.Inner z.Votes z.Accepts w.Node w.Seq w.Trust.Threshold w.Trust.Nodes w.Trust.Inner w.Votes w.Accepts w.Confirms w.Heard = some R
 | [], k, h => by
  apply y2y;rw [q0g h, cF]; exact hnext
 | t :: suf, k, h => by
  have hlt := q0b h;have ht := hk t (List.mem_of_mem_drop (i := k) (by rw [h]; simp));apply y2y;rw [q05 h, cT, q03 h, q0t, qx4 hw ht, bS, qmg hw ht, bS, q14, cF, qg2 (quf hw t), bS, q00 (by omega)];exact y1q hw R L hL hk j hnext suf (k + 1) (q02 h)
theorem y2j {w : Voter} (hw : SmallV w) (R : Bool) (L : List Message) (hL : L.length < 1000) (hk : ∀ t ∈ L, SmallM t) (j : Int) (hy : Small y) (hj : q0s l j)
  (hnext : ∀ j', q0s l j' -> z1r n0 ws c (addI .i64 i 1) raw.Node raw.Seq raw.Trust.Threshold raw.Trust.Nodes raw.Trust.Inner raw.Votes raw.Accepts raw.Confirms raw.Heard m.Node m.Seq m.Trust.Threshold m.Trust.Nodes m.Trust.Inner m.Votes m.Accepts x.Topic x.Value y.Threshold y.Nodes y.Inner l j' v.Node v.Seq v.Trust.Threshold v.Trust.Nodes v.Trust.Inner v.Votes v.Accepts v.Confirms v.Heard z.Node z.Seq z.Trust.Threshold z.Trust.Nodes z.Trust.Inner z.Votes z.Accepts = some R) :
  ∀ (suf : List Message) (k : Nat), L.drop k = suf ->
  z2a n0 ws c i L ((L.length : Nat) : Int) (k : Int) raw.Node raw.Seq raw.Trust.Threshold raw.Trust.Nodes raw.Trust.Inner raw.Votes raw.Accepts raw.Confirms raw.Heard m.Node m.Seq m.Trust.Threshold m.Trust.Nodes m.Trust.Inner m.Votes m.Accepts x.Topic x.Value y.Threshold y.Nodes y.Inner l j v.Node v.Seq v.Trust.Threshold v.Trust.Nodes v.Trust.Inner v.Votes v.Accepts v.Confirms v.Heard z.Node z.Seq z.Trust.Threshold z.Trust.Nodes z.Trust.Inner z.Votes z.Accepts w.Node w.Seq w.Trust.Threshold w.Trust.Nodes w.Trust.Inner w.Votes w.Accepts w.Confirms w.Heard = some R
 | [], k, h => by
  obtain ⟨t, j', g1, g2, a1⟩ := qc4 (n := 4) (by omega) (by omega) hj;apply y1a;rw [q0g h, cF, g1, bS]
  dsimp only
  rw [Trust.etaM, Trust.etaM, Trust.etaM];exact y1q n0 ws c i raw m x y v z hw R [y, t, w.Trust] (by simp) (fun u hu => by
   simp at hu;rcases hu with rfl | rfl | rfl
   .exact hy
   .exact q2c g2
   .exact hw.tr) j' (hnext j' a1) [y, t, w.Trust] 0 rfl
 | t :: suf, k, h => by
  have hlt := q0b h;have ht := hk t (List.mem_of_mem_drop (i := k) (by rw [h]; simp));apply y1a;rw [q05 h, cT, q03 h, q0t, qx5 hw ht, bS, qn7 hw ht, bS, q14, cF, qg2 (qtp t), bS, q00 (by omega)];exact y2j hw R L hL hk j hy hj hnext suf (k + 1) (q02 h)
theorem y1x {w : Voter} (hw : SmallV w) (R : Bool) (L : List Claim) (hL : L.length < 1000) (j : Int) (hy : Small y) (hm : SmallM m) (hz : msgB z = true) (hzq : z.Seq <= 1000000) (hj : q0s l j)
  (hnext : ∀ j', q0s l j' -> z1r n0 ws c (addI .i64 i 1) raw.Node raw.Seq raw.Trust.Threshold raw.Trust.Nodes raw.Trust.Inner raw.Votes raw.Accepts raw.Confirms raw.Heard m.Node m.Seq m.Trust.Threshold m.Trust.Nodes m.Trust.Inner m.Votes m.Accepts x.Topic x.Value y.Threshold y.Nodes y.Inner l j' v.Node v.Seq v.Trust.Threshold v.Trust.Nodes v.Trust.Inner v.Votes v.Accepts v.Confirms v.Heard z.Node z.Seq z.Trust.Threshold z.Trust.Nodes z.Trust.Inner z.Votes z.Accepts = some R) :
  ∀ (suf : List Claim) (k : Nat), L.drop k = suf ->
  z29 n0 ws c i L ((L.length : Nat) : Int) (k : Int) raw.Node raw.Seq raw.Trust.Threshold raw.Trust.Nodes raw.Trust.Inner raw.Votes raw.Accepts raw.Confirms raw.Heard m.Node m.Seq m.Trust.Threshold m.Trust.Nodes m.Trust.Inner m.Votes m.Accepts x.Topic x.Value y.Threshold y.Nodes y.Inner l j v.Node v.Seq v.Trust.Threshold v.Trust.Nodes v.Trust.Inner v.Votes v.Accepts v.Confirms v.Heard z.Node z.Seq z.Trust.Threshold z.Trust.Nodes z.Trust.Inner z.Votes z.Accepts w.Node w.Seq w.Trust.Threshold w.Trust.Nodes w.Trust.Inner w.Votes w.Accepts w.Confirms w.Heard = some R
 | [], k, h => by
  obtain ⟨b, j', g1, g2, a1⟩ := qst hz hzq hj;apply y1c;rw [q0g h, cF, q8j, g1, bS]
  dsimp only
  rw [q8j, q8j];exact y2j n0 ws c i raw m x y v z hw R [z, b, m] (by simp) (fun u hu => by
   simp at hu;rcases hu with rfl | rfl | rfl
   .exact q11 hz
   .exact g2
   .exact hm) j' hy a1 hnext [z, b, m] 0 rfl
 | t :: suf, k, h => by
  have hlt := q0b h;apply y1c;rw [q05 h, cT, q03 h, q0t, qi8 hw, bS, qmp hw, bS, q14, cF, qg2 (qjo hw t), bS, q00 (by omega)];exact y1x hw R L hL j hy hm hz hzq hj hnext suf (k + 1) (q02 h)
end
theorem y3q (n0 : Int) (raw : Voter) (m : Message) (x : Claim) (y : Trust) (v : Voter) (z : Message) {l : List Int} (ws : List Voter) (hws : ws.length < 1000) (hw : ∀ w ∈ ws, SmallV w /\ Fits w.Trust) (hy : Small y) (hm : SmallM m) (hz : msgB z = true) (hzq : z.Seq <= 1000000) :
  ∀ (suf : List Voter) (k : Nat) (j : Int), ws.drop k = suf -> q0s l j ->
  z1r n0 ws ((ws.length : Nat) : Int) (k : Int) raw.Node raw.Seq raw.Trust.Threshold raw.Trust.Nodes raw.Trust.Inner raw.Votes raw.Accepts raw.Confirms raw.Heard m.Node m.Seq m.Trust.Threshold m.Trust.Nodes m.Trust.Inner m.Votes m.Accepts x.Topic x.Value y.Threshold y.Nodes y.Inner l j v.Node v.Seq v.Trust.Threshold v.Trust.Nodes v.Trust.Inner v.Votes v.Accepts v.Confirms v.Heard z.Node z.Seq z.Trust.Threshold z.Trust.Nodes z.Trust.Inner z.Votes z.Accepts = some true
 | [], k, j, h, hj => by
  apply y1i;rw [q0g h, cF, Trust.etaM, qje n0 hy, bS, qk9 n0 hy, bS, q0z, cT, qg2 (qq4 n0 hy), bS, cT, qkw]; rfl
 | w :: suf, k, j, h, hj => by
  have hlt := q0b h;obtain ⟨h1, h2⟩ := hw w (List.mem_of_mem_drop (i := k) (by rw [h]; simp));obtain ⟨b, j', g1, a1⟩ := qls hj;apply y1i;rw [q05 h, cT, q03 h, qa4 h1, bS, qa2 h1, bS, beq_self_eq_true, nT, cF, qrb h2 h1.votes h1.accs, bS, qxf, bS, qnq (a := say w) ⟨h1.tr, h1.votes, h1.accs⟩, bS, qh6.2 rfl, nT, cF,
   q0t, qmf h1, bS, qhi h1, bS, beq_self_eq_true, nT, cF, q0t, qmf h1, bS, qhi h1, bS, beq_self_eq_true, nT, cF, g1, bS]
  dsimp only
  exact y1x n0 ws _ _ raw m x y v z h1 true [x, b] (by simp) j' hy hm hz hzq a1 (fun j'' a2 => by
   rw [q00 (by omega)];exact y3q n0 raw m x y v z ws hws hw hy hm hz hzq suf (k + 1) j'' (q02 h) a2) [x, b] 0 rfl
structure RawM (m : Message) : Prop where
 tr : raw m.Trust = true
 votes : m.Votes.length < 1152921504606846976
 accs : m.Accepts.length < 1152921504606846976
theorem qm8 {m : Message} (h : RawM m) : ∃ b, z3m m = some b /\ (b = true -> SmallM m /\ Fits m.Trust) := by
 obtain ⟨b, g1, g2⟩ := qh9 h.tr;cases b with
 | false => exact ⟨false, qx0 _ _ (by rw [g1]; rfl), fun e => by cases e⟩
 | true =>
  have hs := g2 rfl;by_cases e1 : m.Votes.length <= 40
  .refine ⟨leB ((m.Accepts.length : Nat) : Int) 40, qx0 _ _ (by rw [g1, bS, cT, q0f (by omega)]; rfl), fun e => ?_⟩;have : m.Accepts.length <= 40 := by simp [leB] at e; omega
   exact ⟨⟨by unfold Small; omega, by omega, by omega⟩, by unfold Fits; omega⟩
  .exact ⟨false, qx0 _ _ (by rw [g1, bS, cT, q0e (by omega)]; rfl), fun e => by cases e⟩
theorem qju (l : List Message) (hl : l.length < 1000) (hr : ∀ m ∈ l, RawM m) : ∀ (suf : List Message) (i : Nat), l.drop i = suf -> ∃ b, z2c l ((l.length : Nat) : Int) (i : Int) = some b /\ (b = true -> ∀ m ∈ suf, SmallM m)
 | [], i, h => ⟨true, qvl _ _ _ _ (by rw [q0g h]; rfl), fun _ m hm => by cases hm⟩
 | m :: suf, i, h => by
  have hlt := q0b h;obtain ⟨b, g1, g2⟩ := qm8 (hr m (List.mem_of_mem_drop (i := i) (by rw [h]; simp)));cases b with
  | false => exact ⟨false, qvl _ _ _ _ (by rw [q05 h, cT, q03 h, g1]; rfl), fun e => by cases e⟩
  | true =>
   obtain ⟨c, q1, q2⟩ := qju l hl hr suf (i + 1) (q02 h);refine ⟨c, qvl _ _ _ _ (by rw [q05 h, cT, q03 h, g1, bS, q00 (by omega), q1]; rfl), fun e x hx => ?_⟩;rcases List.mem_cons.1 hx with hx | hx
   .rw [hx]; exact (g2 rfl).1
   .exact q2 e x hx
structure RawV (v : Voter) : Prop where
 tr : raw v.Trust = true
 votes : v.Votes.length < 1152921504606846976
 accs : v.Accepts.length < 1152921504606846976
 confs : v.Confirms.length < 1152921504606846976
 heard : v.Heard.length < 1152921504606846976
 msgs : ∀ m ∈ v.Heard, RawM m
theorem qv8 {v : Voter} (h : RawV v) : ∃ b, z3b v = some b /\ (b = true -> SmallV v /\ Fits v.Trust) := by
 obtain ⟨b, g1, g2⟩ := qh9 h.tr;cases b with
 | false => exact ⟨false, qjw _ _ (by rw [g1]; rfl), fun e => by cases e⟩
 | true =>
  have hs := g2 rfl;by_cases e1 : v.Votes.length <= 40
  .by_cases e2 : v.Accepts.length <= 40
   .by_cases e3 : v.Confirms.length <= 40
    .by_cases e4 : v.Heard.length <= 20
     .obtain ⟨c, q1, q2⟩ := qju v.Heard (by omega) h.msgs v.Heard 0 rfl;have q3 : z3t v.Heard = some c := y2m _ _ (by rw [q01 (by omega), cF]; exact q1);refine ⟨c, qjw _ _ (by rw [g1, bS, cT, q0f (by omega), cT, q0f (by omega), cT, q0f (by omega), cT, q3]; rfl), fun e => ?_⟩;exact ⟨⟨by unfold Small; omega, by omega, by omega, by omega, by omega, q2 e⟩, by unfold Fits; omega⟩
     .have q3 : z3t v.Heard = some false := y2m _ _ (by rw [q04 (by omega), cT]);exact ⟨false, qjw _ _ (by rw [g1, bS, cT, q0f (by omega), cT, q0f (by omega), cT, q0f (by omega), cT, q3]; rfl), fun e => by cases e⟩
    .exact ⟨false, qjw _ _ (by rw [g1, bS, cT, q0f (by omega), cT, q0f (by omega), cT, q0e (by omega)]; rfl), fun e => by cases e⟩
   .exact ⟨false, qjw _ _ (by rw [g1, bS, cT, q0f (by omega), cT, q0e (by omega)]; rfl), fun e => by cases e⟩
  .exact ⟨false, qjw _ _ (by rw [g1, bS, cT, q0e (by omega)]; rfl), fun e => by cases e⟩
theorem qxp (t : List Int) (rv : Voter) (m : Message) (x : Claim) (y : Trust) (node : Int) (hv : RawV rv) (hm : RawM m) (hy : raw y = true) : law19_VotingAnswers t rv m x y node = some true := by
 obtain ⟨b1, g1, g1'⟩ := qv8 hv;obtain ⟨b2, g2, g2'⟩ := qm8 hm;obtain ⟨b3, g3, g3'⟩ := qh9 hy;apply law19_VotingAnswers_le;rw [g1, bS];cases b1 with
 | false => simp only [Bool.not_false, cT, qkw]; rfl
 | true =>
  rw [nT, cF, g2, bS];cases b2 with
  | false => simp only [Bool.not_false, cT, qkw]; rfl
  | true =>
   rw [nT, cF, g3, bS];cases b3 with
   | false => simp only [Bool.not_false, cT, qkw]; rfl
   | true =>
    obtain ⟨h1, h1'⟩ := g1' rfl;obtain ⟨h2, _⟩ := g2' rfl;have h3 : Small y := by have := g3' rfl; unfold Small; omega
    obtain ⟨l, q0, a0⟩ := y8q t;obtain ⟨v, i1, q1, v1, a1⟩ := y0d a0;obtain ⟨z, i2, q2, z1, a2⟩ := qe4 (n := 4) (by omega) (by omega) a1;have hr := (q15.1 v1.valid).1;obtain ⟨b, i3, q3, ⟨b1, b2⟩, a3⟩ := qz0 hr a2;obtain ⟨z2, z3⟩ := z1.later (k := 6) (by omega) (by omega);rw [nT, cF, q0, bS]
    dsimp only
    rw [q1, bS]
    dsimp only
    rw [q2, bS]
    dsimp only
    rw [q3, bS]
    dsimp only
    rw [q0t, q0t, q0t, z2];have hzs := z1.seq;exact y3q node rv m x y v ⟨z.Node, z.Seq + 6, z.Trust, z.Votes, z.Accepts⟩ [v, b, rv] (by simp) (fun w hw => by
     simp at hw;rcases hw with rfl | rfl | rfl
     .exact ⟨hr.small, (q2n hr.tr).1⟩
     .exact ⟨b1, b2⟩
     .exact ⟨h1, h1'⟩) h3 h2 z3 (by dsimp only; omega) [v, b, rv] 0 i3 rfl a3
end Go.Proofs.YthbpagedblodfaaGreat
namespace Go.Ab
open Go Go.ChangeShapes Go.WideShapes Go.RowKit
def Shows (w : World) (ds : List D) (cs : List Value) : Prop := cs.length = ds.length /\ ∀ (j : Nat) c, ds[j]? = some c -> Rep w q3u c (cs.getD j undef)
section
variable {H : Type} {enc : TypeId × Value -> H} {P : Program} {w : World} {spare : Nat -> Bool} {held : Bool}
def Opens (enc : TypeId × Value -> H) (P : Program) (w : World) (spare : Nat -> Bool) (held : Bool) (n : Nat) (t : TypeId) {Y : Type} (f : Y -> D) (good : Y -> Prop) : Prop :=
 ∀ cs d p, DataW.trod enc P w 0 spare held n t cs = some (d, p) -> (d.weights P t).all (· <= reachBytes) = true -> ∃ y, good y /\ Shows w (f y).cells cs
theorem qhz {v : Value} {d : D} (h : Rep w q3u d v) : Shows w [d] [v] :=
 ⟨rfl, fun j c hj => by
  cases j with
  | zero => simp at hj; subst hj; exact h
  | succ j => simp at hj⟩
theorem q4s {n : Nat} {t : TypeId} {k : IntKind} (ht : P.underlying t = some (.int k)) : Opens enc P w spare held n t (fun z : Int => D.v (.int k z)) (fun z => (Lit.int k z).wf = true) := by
 intro cs d p h _;obtain ⟨z, rfl, hx, hw⟩ := DataW.trod_int ht h;exact ⟨z, hw, qhz (.v _ rfl)⟩
theorem qav {e : TypeId} : ∀ {l : List (DataW H)}, (DataW.weightsAll P e l).all (· <= reachBytes) = true -> ∀ d ∈ l, (d.weights P e).all (· <= reachBytes) = true
 | [], _, d, hd => by cases hd
 | x :: r, h, d, hd => by
  simp only [DataW.weightsAll, List.all_append, aT] at h;rcases List.mem_cons.1 hd with rfl | hd
  .exact h.1
  .exact qav h.2 d hd
theorem q2j : ∀ {ts : List TypeId} {l : List (DataW H)}, (DataW.weightsEach P ts l).all (· <= reachBytes) = true -> ∀ (i : Nat) t d, ts[i]? = some t -> l[i]? = some d -> (d.weights P t).all (· <= reachBytes) = true
 | [], _, _, i, t, d, h1, _ => by simp at h1
 | _ :: _, [], _, i, t, d, _, h2 => by simp at h2
 | t0 :: ts, d0 :: l, h, i, t, d, h1, h2 => by
  simp only [DataW.weightsEach, List.all_append, aT] at h;cases i with
  | zero => simp at h1 h2; subst h1; subst h2; exact h.1
  | succ i => exact q2j h.2 i t d (by simpa using h1) (by simpa using h2)
theorem y2a {Y : Type} {Q : Nat -> Y -> Prop} : ∀ (n : Nat), (∀ i, i < n -> ∃ y, Q i y) -> ∃ ys : List Y, ys.length = n /\ ∀ (i : Nat) y, ys[i]? = some y -> Q i y
 | 0, _ => ⟨[], rfl, fun i y h => by simp at h⟩
 | n + 1, h => by
  obtain ⟨ys, h1, h2⟩ := y2a n (fun i hi => h i (by omega));obtain ⟨y, hy⟩ := h n (by omega);refine ⟨ys ++ [y], by simp [h1], fun i z hz => ?_⟩;rw [List.getElem?_append] at hz;split at hz
  .exact h2 i z hz
  .rename_i hi;have : i = n := by have := (List.getElem?_eq_some_iff.1 hz).1; simp at this; omega
   subst this;simp [h1] at hz;subst hz; exact hy
theorem qi0 {a : Addr} {n : Nat} {cs : List Value} (h : w.cells? 0 a n = some cs) : cs.length = n /\ ∀ i, i < n -> w.cell? (a.add i) = cs[i]? := by
 unfold World.cells? at h;rw [if_pos (Nat.zero_le _)] at h;exact ⟨by simpa using mapM_some_length h, fun i hi => mapM_some_get h i i (by simp [hi])⟩
theorem qv4 {a : Addr} {u : Value} (h : w.cell? (a.add 0) = some u) : a.spot = none := by
 simp only [Addr.add, if_true, World.cell?] at h;split at h
 .split at h
  .cases h
  .rename_i hs; simpa using hs
 .cases h
theorem q37 {n sz : Nat} {t e : TypeId} {Y : Type} {f : Y -> D} {good : Y -> Prop} (ht : P.underlying t = some (.slice e)) (hsz : P.cellsOf e = sz) (hpos : 0 < sz) (hb : 8 <= P.bytesOf e) (hf : ∀ y, (f y).cells.length = sz)
  (he : ∀ m, m < n -> Opens enc P w spare held m e f good) : Opens enc P w spare held n t (fun ys : List Y => D.list (ys.map f)) (fun ys => ys.length < 1152921504606846976 /\ ∀ y ∈ ys, good y) := by
 intro cs d p h hw;rcases DataW.trod_slice ht h with ⟨rfl, hx⟩ | ⟨a, len, cap, elems, rest, n', rfl, rfl, hx, _, hlc, _, hlen, hel, _, _⟩
 .exact ⟨[], ⟨by simp, by simp⟩, qhz (.empty _ _)⟩
 .simp only [pI] at hx;obtain ⟨rfl, _⟩ := hx;simp only [DataW.weights, ht, List.all_cons, List.all_append, aT, dT', List.length_map] at hw;obtain ⟨hw1, hw2, _⟩ := hw;have each : ∀ i, i < len -> ∃ y, good y /\ ∃ cs', w.cells? 0 (a.add (i * sz)) sz = some cs' /\ Shows w (f y).cells cs' := by
   intro i hi;have h1 := hel i hi;have hie : i < elems.length := by omega
   rw [List.getElem?_eq_getElem hie, Option.bind_eq_some_iff, hsz] at h1;obtain ⟨cs', h2, h3⟩ := h1;obtain ⟨y, g1, g2⟩ := he n' (by omega) cs' elems[i].1 elems[i].2 h3 (qav hw2 _ (List.mem_map.2 ⟨_, List.getElem_mem hie, rfl⟩));exact ⟨y, g1, cs', h2, g2⟩
  obtain ⟨ys, y1, y2⟩ := y2a len each;have hlenb : ys.length < 1152921504606846976 := by
   have h8 : len * 8 <= (elems.length + rest.length) * P.bytesOf e := Nat.mul_le_mul (by omega) hb;have : reachBytes = 140737488351232 := rfl;omega
  refine ⟨ys, ⟨hlenb, fun y hy => ?_⟩, qhz ?_⟩
  .obtain ⟨i, hi⟩ := List.getElem?_of_mem hy;exact (y2 i y hi).1
  .by_cases h0 : len = 0
   .have : ys = [] := List.length_eq_zero_iff.1 (by omega);subst this;subst h0;exact .empty _ _
   .have hsp : a.spot = none := by
     obtain ⟨y, _, cs', h2, _⟩ := each 0 (by omega);obtain ⟨h3, h4⟩ := qi0 h2;have h5 := h4 0 hpos;have hlt : 0 < cs'.length := by omega
     rw [List.getElem?_eq_getElem hlt, Nat.zero_mul] at h5;have := qv4 h5;simpa [Addr.add] using this
    obtain ⟨b, off, sp⟩ := a;simp only at hsp;subst hsp;have hml : (ys.map f).length = len := by simp [y1]
    have key := Rep.list (w := w) (I := q3u) (ys.map f) b off cap sz (fun i j => (w.cell? ⟨b, off + i * sz + j, none⟩).getD undef) (fun x hx => by
      obtain ⟨y, _, rfl⟩ := List.mem_map.1 hx; exact hf y) (by rw [hml]; exact hlc)
     (fun i x hx j c hj => by
      rw [List.getElem?_map] at hx;cases hy : ys[i]? with
      | none => rw [hy] at hx; cases hx
      | some y =>
       rw [hy] at hx; simp only [mS, sI] at hx; subst hx;obtain ⟨_, cs', h2, h3, h4⟩ := y2 i y hy;obtain ⟨h5, h6⟩ := qi0 h2;have hj' : j < sz := by rw [<- hf y]; exact (List.getElem?_eq_some_iff.1 hj).1
       have h7 := h6 j hj';have hlt : j < cs'.length := by omega
       rw [add_plain, add_plain, List.getElem?_eq_getElem hlt] at h7;exact ⟨by rw [h7]; rfl, trivial⟩)
     (fun i x hx j c hj => by
      rw [List.getElem?_map] at hx;cases hy : ys[i]? with
      | none => rw [hy] at hx; cases hx
      | some y =>
       rw [hy] at hx; simp only [mS, sI] at hx; subst hx;obtain ⟨_, cs', h2, h3, h4⟩ := y2 i y hy;obtain ⟨h5, h6⟩ := qi0 h2;have hj' : j < sz := by rw [<- hf y]; exact (List.getElem?_eq_some_iff.1 hj).1
       have h7 := h6 j hj';have hlt : j < cs'.length := by omega
       rw [add_plain, add_plain, List.getElem?_eq_getElem hlt] at h7;have h8 := h4 j c hj;rw [List.getD_eq_getElem?_getD, List.getElem?_eq_getElem hlt] at h8;rw [h7];exact h8)
    rw [hml] at key;exact key
theorem q7n {n : Nat} {t : TypeId} {fs : Array Field} {cs : List Value} {d : DataW H} {p : List MemPlace} (ht : P.underlying t = some (.struct fs)) (h : DataW.trod enc P w 0 spare held n t cs = some (d, p)) (hw : (d.weights P t).all (· <= reachBytes) = true) :
  ∃ m, n = m + 1 /\ cs.length = P.cellsOf t /\ ∀ (i : Nat) (f : Field), fs[i]? = some f -> ∃ d' p', DataW.trod enc P w 0 spare held m f.type ((cs.drop f.offset).take (P.cellsOf f.type)) = some (d', p') /\ (d'.weights P f.type).all (· <= reachBytes) = true := by
 obtain ⟨xs, m, rfl, hx, hl, hn, hf⟩ := DataW.trod_struct ht h;simp only [pI] at hx;obtain ⟨rfl, _⟩ := hx;simp only [DataW.weights, ht] at hw;refine ⟨m, rfl, hl, fun i f hi => ?_⟩;have hlt : i < xs.length := by rw [hn]; exact (Array.getElem?_eq_some_iff.1 hi).1
 have h1 := hf i f hi;rw [List.getElem?_eq_getElem hlt] at h1;exact ⟨_, _, h1, q2j hw i f.type _ (by rw [List.getElem?_map]; simp [hi]) (by rw [List.getElem?_map, List.getElem?_eq_getElem hlt]; rfl)⟩
theorem q2h {a b : List D} {cs : List Value} {k m : Nat} (hm : a.length = m) (h1 : Shows w a ((cs.drop k).take m)) (h2 : Shows w b (cs.drop (k + m))) : Shows w (a ++ b) (cs.drop k) := by
 have hle : m <= cs.length - k := by have := h1.1; simp at this; omega
 refine ⟨by have := h2.1; simp at this ⊢; omega, fun j c hj => ?_⟩;rw [List.getElem?_append] at hj;split at hj
 .rename_i hlt;have := h1.2 j c hj;rw [List.getD_eq_getElem?_getD, List.getElem?_take, if_pos (by omega)] at this;rw [List.getD_eq_getElem?_getD]; exact this
 .rename_i hge;have := h2.2 _ c hj;rw [List.getD_eq_getElem?_getD, List.getElem?_drop] at this ⊢;rw [show k + m + (j - a.length) = k + j by omega] at this;exact this
theorem qcq {a : List D} {cs : List Value} {k m : Nat} (h : Shows w a ((cs.drop k).take m)) (hm : cs.length = k + m) : Shows w a (cs.drop k) := by
 rw [List.take_of_length_le (by simp; omega)] at h; exact h
theorem qce {ds : List D} {cs : Array Value} (h : Shows w ds cs.toList) : Rep w q3u (.agg ds) (.agg cs) :=
 .agg ds cs (by simpa using h.1) (fun j c hj => by
  have := h.2 j c hj;rw [List.getD_eq_getElem?_getD] at this;rw [Array.getD_eq_getD_getElem?];simpa using this)
end
end Go.Ab
namespace Go.Proofs.YthbpagedblodfaaGreat
open Go Go.Ab Go.ChangeShapes Go.WideShapes Go.RowKit
section
variable {H : Type} {enc : TypeId × Value -> H} {w : World} {spare : Nat -> Bool} {held : Bool}
theorem qq1 (t : Trust) : (q10 t).cells.length = 3 := by cases t; rfl
theorem y4f {l : List Trust} (h : ∀ x ∈ l, raw x = true) : raws l = true := by
 induction l with
 | nil => rfl
 | cons y r ih => simp only [raws, h y (by simp), ih (fun x hx => h x (by simp [hx])), Bool.and_self]
theorem qbb : ∀ n, Opens enc Tryz.prog w spare held n 27 q10 (fun t => raw t = true) := by
 intro n;induction n using Nat.strongRecOn with
 | _ n ih =>
  intro cs d p h hw;obtain ⟨m, rfl, hl, hf⟩ := q7n Tryz.underlying27 h hw;have c27 : Tryz.prog.cellsOf 27 = 3 := by kernel_rfl
  have c3 : Tryz.prog.cellsOf 3 = 1 := by kernel_rfl
  have c22 : Tryz.prog.cellsOf 22 = 1 := by kernel_rfl
  have c25 : Tryz.prog.cellsOf 25 = 1 := by kernel_rfl
  have b3 : Tryz.prog.bytesOf 3 = 8 := by kernel_rfl
  have b27 : 8 <= Tryz.prog.bytesOf 27 := of_decide_eq_true (by kernel_rfl);obtain ⟨d0, p0, t0, w0⟩ := hf 0 _ rfl;obtain ⟨d1, p1, t1, w1⟩ := hf 1 _ rfl;obtain ⟨d2, p2, t2, w2⟩ := hf 2 _ rfl;replace t0 : DataW.trod enc Tryz.prog w 0 spare held m 3 ((cs.drop 0).take (Tryz.prog.cellsOf 3)) = some (d0, p0) := t0;replace t1 : DataW.trod enc Tryz.prog w 0 spare held m 22 ((cs.drop 1).take (Tryz.prog.cellsOf 22)) = some (d1, p1) := t1;replace t2 : DataW.trod enc Tryz.prog w 0 spare held m 25 ((cs.drop 2).take (Tryz.prog.cellsOf 25)) = some (d2, p2) := t2;rw [c3] at t0; rw [c22] at t1; rw [c25] at t2;obtain ⟨z, z1, z2⟩ := q4s Tryz.underlying3 _ _ _ t0 w0
  obtain ⟨ns, n1, n2⟩ := q37 (f := q4d) (good := fun z => (Lit.int .i64 z).wf = true) Tryz.underlying22 c3 (by decide) (by rw [b3]; decide) (fun _ => rfl) (fun k _ => q4s Tryz.underlying3) _ _ _ t1 w1;obtain ⟨is, i1, i2⟩ := q37 (f := q10) (good := fun t => raw t = true) Tryz.underlying25 c27 (by decide) b27 qq1 (fun k hk => ih k (by omega)) _ _ _ t2 w2;refine ⟨⟨z, ns, is⟩, ?_, ?_⟩
  .have := bounds_i64 z1;show raw ⟨z, ns, is⟩ = true;rw [y0l];simp only [aT, dT'];exact ⟨by omega, n1.1, i1.1, y4f i1.2⟩
  .show Shows w ([D.v (.int .i64 z)] ++ ([D.list (ns.map q4d)] ++ [D.list (q2y is)])) (cs.drop 0);rw [q49];exact q2h (m := 1) rfl z2 (q2h (m := 1) rfl n2 (qcq i2 (by rw [hl, c27])))
theorem q4l (n : Nat) : Opens enc Tryz.prog w spare held n 38 q0c (fun _x => True) := by
 intro cs d p h hw;obtain ⟨m, rfl, hl, hf⟩ := q7n Tryz.underlying38 h hw;have c38 : Tryz.prog.cellsOf 38 = 2 := by kernel_rfl
 have c3 : Tryz.prog.cellsOf 3 = 1 := by kernel_rfl
 obtain ⟨d0, p0, t0, w0⟩ := hf 0 _ rfl;replace t0 : DataW.trod enc Tryz.prog w 0 spare held m 3 ((cs.drop 0).take (Tryz.prog.cellsOf 3)) = some (d0, p0) := t0;rw [c3] at t0;obtain ⟨z0, _, s0⟩ := q4s Tryz.underlying3 _ _ _ t0 w0;obtain ⟨d1, p1, t1, w1⟩ := hf 1 _ rfl;replace t1 : DataW.trod enc Tryz.prog w 0 spare held m 3 ((cs.drop 1).take (Tryz.prog.cellsOf 3)) = some (d1, p1) := t1;rw [c3] at t1;obtain ⟨z1, _, s1⟩ := q4s Tryz.underlying3 _ _ _ t1 w1;refine ⟨⟨z0, z1⟩, trivial, ?_⟩;show Shows w ([D.v (.int .i64 z0)] ++ ([D.v (.int .i64 z1)])) (cs.drop 0);exact q2h (m := 1) rfl s0 (qcq s1 (by rw [hl, c38]))
theorem qde (n : Nat) : Opens enc Tryz.prog w spare held n 40 q0q (fun x => RawM x) := by
 intro cs d p h hw;obtain ⟨m, rfl, hl, hf⟩ := q7n Tryz.underlying40 h hw;have c38 : Tryz.prog.cellsOf 38 = 2 := by kernel_rfl
 have c28 : Tryz.prog.cellsOf 28 = 1 := by kernel_rfl
 have c40 : Tryz.prog.cellsOf 40 = 7 := by kernel_rfl
 have c27 : Tryz.prog.cellsOf 27 = 3 := by kernel_rfl
 have c3 : Tryz.prog.cellsOf 3 = 1 := by kernel_rfl
 have b38 : 8 <= Tryz.prog.bytesOf 38 := of_decide_eq_true (by kernel_rfl);obtain ⟨d0, p0, t0, w0⟩ := hf 0 _ rfl;replace t0 : DataW.trod enc Tryz.prog w 0 spare held m 3 ((cs.drop 0).take (Tryz.prog.cellsOf 3)) = some (d0, p0) := t0;rw [c3] at t0;obtain ⟨z0, _, s0⟩ := q4s Tryz.underlying3 _ _ _ t0 w0;obtain ⟨d1, p1, t1, w1⟩ := hf 1 _ rfl;replace t1 : DataW.trod enc Tryz.prog w 0 spare held m 3 ((cs.drop 1).take (Tryz.prog.cellsOf 3)) = some (d1, p1) := t1;rw [c3] at t1;obtain ⟨z1, _, s1⟩ := q4s Tryz.underlying3 _ _ _ t1 w1;obtain ⟨d2, p2, t2, w2⟩ := hf 2 _ rfl;replace t2 : DataW.trod enc Tryz.prog w 0 spare held m 27 ((cs.drop 2).take (Tryz.prog.cellsOf 27)) = some (d2, p2) := t2;rw [c27] at t2;obtain ⟨z2, g2, s2⟩ := qbb _ _ _ _ t2 w2;obtain ⟨d3, p3, t3, w3⟩ := hf 3 _ rfl
 replace t3 : DataW.trod enc Tryz.prog w 0 spare held m 28 ((cs.drop 5).take (Tryz.prog.cellsOf 28)) = some (d3, p3) := t3;rw [c28] at t3;obtain ⟨z3, g3, s3⟩ := q37 (f := q0c) (good := fun _ => True) Tryz.underlying28 c38 (by decide) b38 (fun _ => rfl) (fun k _ => q4l k) _ _ _ t3 w3;obtain ⟨d4, p4, t4, w4⟩ := hf 4 _ rfl;replace t4 : DataW.trod enc Tryz.prog w 0 spare held m 28 ((cs.drop 6).take (Tryz.prog.cellsOf 28)) = some (d4, p4) := t4;rw [c28] at t4;obtain ⟨z4, g4, s4⟩ := q37 (f := q0c) (good := fun _ => True) Tryz.underlying28 c38 (by decide) b38 (fun _ => rfl) (fun k _ => q4l k) _ _ _ t4 w4;refine ⟨⟨z0, z1, z2, z3, z4⟩, ⟨g2, g3.1, g4.1⟩, ?_⟩;obtain ⟨thr, ns, is⟩ := z2
 show Shows w ([D.v (.int .i64 z0)] ++ ([D.v (.int .i64 z1)] ++ ([D.v (.int .i64 thr), .list (ns.map q4d), .list (is.map q10)] ++ ([D.list (z3.map q0c)] ++ ([D.list (z4.map q0c)]))))) (cs.drop 0);rw [<- q49];exact q2h (m := 1) rfl s0 (q2h (m := 1) rfl s1 (q2h (m := 3) rfl s2 (q2h (m := 1) rfl s3 (qcq s4 (by rw [hl, c40])))))
theorem qqr (n : Nat) : Opens enc Tryz.prog w spare held n 31 q3w (fun x => RawV x) := by
 intro cs d p h hw;obtain ⟨m, rfl, hl, hf⟩ := q7n Tryz.underlying31 h hw;have c38 : Tryz.prog.cellsOf 38 = 2 := by kernel_rfl
 have c28 : Tryz.prog.cellsOf 28 = 1 := by kernel_rfl
 have c29 : Tryz.prog.cellsOf 29 = 1 := by kernel_rfl
 have c40 : Tryz.prog.cellsOf 40 = 7 := by kernel_rfl
 have c27 : Tryz.prog.cellsOf 27 = 3 := by kernel_rfl
 have c31 : Tryz.prog.cellsOf 31 = 9 := by kernel_rfl
 have c3 : Tryz.prog.cellsOf 3 = 1 := by kernel_rfl
 have b38 : 8 <= Tryz.prog.bytesOf 38 := of_decide_eq_true (by kernel_rfl);have b40 : 8 <= Tryz.prog.bytesOf 40 := of_decide_eq_true (by kernel_rfl);obtain ⟨d0, p0, t0, w0⟩ := hf 0 _ rfl;replace t0 : DataW.trod enc Tryz.prog w 0 spare held m 3 ((cs.drop 0).take (Tryz.prog.cellsOf 3)) = some (d0, p0) := t0;rw [c3] at t0;obtain ⟨z0, _, s0⟩ := q4s Tryz.underlying3 _ _ _ t0 w0;obtain ⟨d1, p1, t1, w1⟩ := hf 1 _ rfl;replace t1 : DataW.trod enc Tryz.prog w 0 spare held m 3 ((cs.drop 1).take (Tryz.prog.cellsOf 3)) = some (d1, p1) := t1;rw [c3] at t1;obtain ⟨z1, _, s1⟩ := q4s Tryz.underlying3 _ _ _ t1 w1;obtain ⟨d2, p2, t2, w2⟩ := hf 2 _ rfl;replace t2 : DataW.trod enc Tryz.prog w 0 spare held m 27 ((cs.drop 2).take (Tryz.prog.cellsOf 27)) = some (d2, p2) := t2;rw [c27] at t2
 obtain ⟨z2, g2, s2⟩ := qbb _ _ _ _ t2 w2;obtain ⟨d3, p3, t3, w3⟩ := hf 3 _ rfl;replace t3 : DataW.trod enc Tryz.prog w 0 spare held m 28 ((cs.drop 5).take (Tryz.prog.cellsOf 28)) = some (d3, p3) := t3;rw [c28] at t3;obtain ⟨z3, g3, s3⟩ := q37 (f := q0c) (good := fun _ => True) Tryz.underlying28 c38 (by decide) b38 (fun _ => rfl) (fun k _ => q4l k) _ _ _ t3 w3;obtain ⟨d4, p4, t4, w4⟩ := hf 4 _ rfl;replace t4 : DataW.trod enc Tryz.prog w 0 spare held m 28 ((cs.drop 6).take (Tryz.prog.cellsOf 28)) = some (d4, p4) := t4;rw [c28] at t4;obtain ⟨z4, g4, s4⟩ := q37 (f := q0c) (good := fun _ => True) Tryz.underlying28 c38 (by decide) b38 (fun _ => rfl) (fun k _ => q4l k) _ _ _ t4 w4;obtain ⟨d5, p5, t5, w5⟩ := hf 5 _ rfl
 replace t5 : DataW.trod enc Tryz.prog w 0 spare held m 28 ((cs.drop 7).take (Tryz.prog.cellsOf 28)) = some (d5, p5) := t5;rw [c28] at t5;obtain ⟨z5, g5, s5⟩ := q37 (f := q0c) (good := fun _ => True) Tryz.underlying28 c38 (by decide) b38 (fun _ => rfl) (fun k _ => q4l k) _ _ _ t5 w5;obtain ⟨d6, p6, t6, w6⟩ := hf 6 _ rfl;replace t6 : DataW.trod enc Tryz.prog w 0 spare held m 29 ((cs.drop 8).take (Tryz.prog.cellsOf 29)) = some (d6, p6) := t6;rw [c29] at t6;obtain ⟨z6, g6, s6⟩ := q37 (f := q0q) (good := fun x => RawM x) Tryz.underlying29 c40 (by decide) b40 (fun _ => rfl) (fun k _ => qde k) _ _ _ t6 w6;refine ⟨⟨z0, z1, z2, z3, z4, z5, z6⟩, ⟨g2, g3.1, g4.1, g5.1, g6.1, g6.2⟩, ?_⟩;obtain ⟨thr, ns, is⟩ := z2
 show Shows w ([D.v (.int .i64 z0)] ++ ([D.v (.int .i64 z1)] ++ ([D.v (.int .i64 thr), .list (ns.map q4d), .list (is.map q10)] ++ ([D.list (z3.map q0c)] ++ ([D.list (z4.map q0c)] ++ ([D.list (z5.map q0c)] ++ ([D.list (z6.map q0q)]))))))) (cs.drop 0);rw [<- q49];exact q2h (m := 1) rfl s0 (q2h (m := 1) rfl s1 (q2h (m := 3) rfl s2 (q2h (m := 1) rfl s3 (q2h (m := 1) rfl s4 (q2h (m := 1) rfl s5 (qcq s6 (by rw [hl, c31])))))))
end
end Go.Proofs.YthbpagedblodfaaGreat
namespace Go.Proofs.YthbpagedblodfaaGreat
open Go Go.Ab Go.ChangeShapes Go.WideShapes Go.ChangeAt Go.WideMaps Go.WideElems Go.RowKit
theorem Tryz.own : ownKnob Tryz.prog.godebug = none := by kernel_rfl
theorem Tryz.laidOut : laidOutB Tryz.prog = true := by kernel_rfl
end Go.Proofs.YthbpagedblodfaaGreat
