/- Dispensable and intact, without a program: pairs of configurations, what is left of quorums, the theorem of dispensable sets, the qv7. -/
import Derived.Test.YtbmelgbadedbbaaGreatP14Danger
namespace Go.Proofs.YtbmelgbadedbbaaGreat
open Go Go.Ab Go.Sort
theorem nz {a : Nat} : a ≠ 0 ↔ ∃ i, a.testBit i = true := ⟨qxg, fun ⟨i, hi⟩ e => by rw [e, Nat.zero_testBit] at hi; cases hi⟩
theorem qqm {a b : Nat} : a &&& b ≠ 0 ↔ ∃ i, a.testBit i = true ∧ b.testBit i = true := by
 rw [nz]; simp only [Nat.testBit_and, Bool.and_eq_true]
theorem qir {a b : Nat} : ndiff a b ≠ 0 ↔ ∃ i, a.testBit i = true ∧ b.testBit i = false := by
 rw [nz]; simp only [q06, Bool.and_eq_true, Bool.not_eq_true']
def full (c : Config) : Nat := 2 ^ c.Members.length - 1
theorem qbi {c : Config} {i : Nat} : (full c).testBit i = decide (i < c.Members.length) := by rw [full, Nat.testBit_two_pow_sub_one]
theorem q8o {c : Config} (hn : c.Members.length ≤ 10) : full c < 1024 := by have := pow10 hn; unfold full; omega
theorem qb1 {c : Config} {s : Nat} : s < 2 ^ c.Members.length ↔ Sub s (full c) := q1i
theorem quz {c : Config} (hn : c.Members.length ≤ 10) : Sub (decl c) (full c) := qb1.1 (q94 hn)
structure PairOk (n : Nat) (lo hi : Config) : Prop where
 lok : ConfOk n lo
 hik : ConfOk n hi
 len : lo.Members.length = hi.Members.length
 dec : decl lo = decl hi
 imp : ∀ k s, (decl lo).testBit k = true → s < 1024 → sat s (tr hi k) = true → sat s (tr lo k) = true
variable {n : Nat} {lo hi : Config}
theorem PairOk.self {c : Config} (h : ConfOk n c) : PairOk n c c := ⟨h, h, rfl, rfl, fun _ _ _ _ h => h⟩
theorem PairOk.fullEq (h : PairOk n lo hi) : full lo = full hi := by unfold full; rw [h.len]
theorem qjc (h : PairOk n lo hi) {q : Nat} (hq : q1v hi q) : q1v lo q :=
 ⟨hq.1, by rw [h.dec]; exact hq.2.1, fun k hk => h.imp k q (by rw [h.dec]; exact hq.2.1 k hk) (qi7 hq) (hq.2.2 k hk)⟩
theorem qjf {s z : Nat} (h : Sub s z) {t : Trust} (hs : sat s t = true) : sat z t = true := qpk (qn8 h) t hs
theorem y44 {c : Config} {a b : Nat} (ha : q1v c a) (hb : q1v c b) : q1v c (a ||| b) := by
 refine ⟨fun e => ha.1 (Nat.le_zero.1 (e ▸ (Nat.left_le_or : a ≤ a ||| b))), ha.2.1.or hb.2.1, fun k hk => ?_⟩
 rw [Nat.testBit_or, Bool.or_eq_true] at hk;rcases hk with hk | hk
 ·exact qjf Sub.left (ha.2.2 k hk)
 ·exact qjf Sub.right (hb.2.2 k hk)
def QL (c : Config) (b y : Nat) : Prop := y ≠ 0 ∧ Sub y (decl c) ∧ (∀ i, y.testBit i = true → b.testBit i = false) ∧ ∀ k, y.testBit k = true → sat (y ||| b) (tr c k) = true
theorem y54 {c : Config} {b y : Nat} : q1v (delC b c) y ↔ QL c b y := by
 constructor
 ·intro h;have hd : ∀ i, y.testBit i = true → b.testBit i = false := fun i hi => (q3g.1 (h.2.1 i hi)).2
  have h' := (qht (qi7 h) hd).1 h;exact ⟨h'.1, h'.2.1, hd, h'.2.2⟩
 ·rintro ⟨h1, h2, h3, h4⟩;exact (qht (h2.lt (q6c c)) h3).2 ⟨h1, h2, h4⟩
theorem q91 {c : Config} {b d y : Nat} (hbd : Sub b d) (h : QL c b y) (h0 : ndiff y d ≠ 0) : QL c d (ndiff y d) := by
 refine ⟨h0, fun i hi => h.2.1 i ?_, fun i hi => ?_, fun k hk => ?_⟩
 ·rw [q06, Bool.and_eq_true] at hi; exact hi.1
 ·rw [q06, Bool.and_eq_true, Bool.not_eq_true'] at hi; exact hi.2
 ·rw [q06, Bool.and_eq_true] at hk;rw [qox];refine qjf (fun i hi => ?_) (h.2.2.2 k hk.1)
  rw [Nat.testBit_or, Bool.or_eq_true] at hi ⊢;exact hi.imp id (hbd i)
theorem y1j {c : Config} {q : Nat} (h : q1v c q) : QL c 0 q := ⟨h.1, h.2.1, fun i _ => Nat.zero_testBit i, fun k hk => by rw [Nat.or_zero]; exact h.2.2 k hk⟩
theorem qre (b : Nat) : Sub 0 b := fun i hi => by rw [Nat.zero_testBit] at hi; cases hi
theorem ql3 {c : Config} {b q : Nat} (h : q1v c q) (hd : ∀ i, q.testBit i = true → b.testBit i = false) : QL c b q :=
 ⟨h.1, h.2.1, hd, fun k hk => qjf Sub.left (h.2.2 k hk)⟩
theorem qfg {c : Config} (hn : c.Members.length ≤ 10) {b : Nat} : q4y c b = true ↔ ∃ x y, QL c b x ∧ QL c b y ∧ x &&& y = 0 := by
 unfold q4y;rw [qpw (by rw [qeg]; exact hn)]
 simp only [y54]
theorem qij {c : Config} (hn : c.Members.length ≤ 10) {b x y : Nat} (h : q4y c b = false) (hx : QL c b x) (hy : QL c b y) : ∃ i, x.testBit i = true ∧ y.testBit i = true := by
 apply qqm.1;intro e;rw [(qfg hn).2 ⟨x, y, hx, hy, e⟩] at h;cases h
def q85 (c : Config) (b : Nat) : Bool := ndiff (full c) b == 0 || quoB c (ndiff (full c) b)
def isB (lo hi : Config) (b : Nat) : Bool := q85 hi b && !q4y lo b
theorem q8a {c : Config} (hn : c.Members.length ≤ 10) (b : Nat) : ndiff (full c) b < 1024 := q4p (q8o hn)
theorem qlb {c : Config} (hn : c.Members.length ≤ 10) {b : Nat} : q85 c b = true ↔ ndiff (full c) b = 0 ∨ q1v c (ndiff (full c) b) := by
 unfold q85;rw [Bool.or_eq_true, beq_iff_eq, q9q (q8a hn b)]
theorem ConfOk.le10 {c : Config} (h : ConfOk n c) (hn : n ≤ 10) : c.Members.length ≤ 10 := Nat.le_trans h.le hn
theorem qav (h : PairOk n lo hi) (hn : n ≤ 10) {b : Nat} : isB lo hi b = true ↔ (ndiff (full lo) b = 0 ∨ q1v hi (ndiff (full lo) b)) ∧ q4y lo b = false := by
 unfold isB;rw [Bool.and_eq_true, qlb (h.hik.le10 hn), ← h.fullEq, Bool.not_eq_true']
theorem q33 {a b : Nat} : ndiff a b = 0 ↔ Sub a b := by rw [← q61, subB, beq_iff_eq]
theorem qx2 (h : PairOk n lo hi) (hn : n ≤ 10) : isB lo hi (full lo) = true := by
 rw [qav h hn];refine ⟨.inl (q33.2 (Sub.refl _)), ?_⟩;rw [← Bool.not_eq_true, qfg (h.lok.le10 hn)];rintro ⟨x, _, ⟨h1, h2, h3, _⟩, _⟩;obtain ⟨i, hi⟩ := nz.1 h1;have := quz (h.lok.le10 hn) i (h2 i hi);rw [h3 i hi] at this;cases this
theorem meets (h : PairOk n lo hi) (hn : n ≤ 10) {ill x y : Nat} (hx : isB lo hi x = true) (hy : isB lo hi y = true) (hill : q4y lo ill = false) (ix : Sub ill x) (iy : Sub ill y) (lx : Sub x (full lo)) (ly : Sub y (full lo)) : isB lo hi (x &&& y) = true := by
 have hle := h.lok.le10 hn;obtain ⟨ax, sx⟩ := (qav h hn).1 hx;obtain ⟨ay, sy⟩ := (qav h hn).1 hy;rcases ax with ax | ax
 ·rw [show x &&& y = y from (Sub.and_right x y).antisymm (fun i hi => by rw [Nat.testBit_and, q33.1 ax i (ly i hi), hi]; rfl)]
  exact hy
 rcases ay with ay | ay
 ·rw [show x &&& y = x from (Sub.and_left x y).antisymm (fun i hi => by rw [Nat.testBit_and, q33.1 ay i (lx i hi), hi]; rfl)]
  exact hx
 have hU : ndiff (full lo) (x &&& y) = ndiff (full lo) x ||| ndiff (full lo) y := by
  apply Nat.eq_of_testBit_eq;intro i;simp only [Nat.testBit_or, q06, Nat.testBit_and];cases (full lo).testBit i <;> cases x.testBit i <;> cases y.testBit i <;> rfl
 rw [qav h hn, hU];refine ⟨.inr (y44 ax ay), ?_⟩;have bx : ∀ i, (ndiff (full lo) x).testBit i = true → x.testBit i = false := fun i hi => by
  rw [q06, Bool.and_eq_true, Bool.not_eq_true'] at hi; exact hi.2
 have by' : ∀ i, (ndiff (full lo) y).testBit i = true → y.testBit i = false := fun i hi => by
  rw [q06, Bool.and_eq_true, Bool.not_eq_true'] at hi; exact hi.2
 have off : ∀ {a b : Nat}, Sub a b → ∀ i, b.testBit i = false → a.testBit i = false := fun {a b} hs i hi => by
  cases ha : a.testBit i with
  | false => rfl
  | true => rw [hs i ha] at hi; cases hi
 obtain ⟨m, m1, m2⟩ := qij hle hill (ql3 (qjc h ax) fun i hi => off ix i (bx i hi)) (ql3 (qjc h ay) fun i hi => off iy i (by' i hi))
 have claim : ∀ A, QL lo (x &&& y) A → ndiff A x ≠ 0 := by
  intro A hA h0;have hsub := q33.1 h0;obtain ⟨i, hi⟩ := nz.1 hA.1;have hxy := hA.2.2.1 i hi;rw [Nat.testBit_and, hsub i hi, Bool.true_and] at hxy;have hAy := q91 (Sub.and_right x y) hA (qir.2 ⟨i, hi, hxy⟩);have hUy := q91 (qre y) (y1j (qjc h ax)) (qir.2 ⟨m, m1, by' m m2⟩)
  obtain ⟨j, j1, j2⟩ := qij hle sy hAy hUy;rw [q06, Bool.and_eq_true] at j1 j2;have := bx j j2.1;rw [hsub j j1.1] at this;cases this
 rw [← Bool.not_eq_true, qfg hle];rintro ⟨A, B, hA, hB, hAB⟩;obtain ⟨j, j1, j2⟩ := qij hle sx (q91 (Sub.and_left x y) hA (claim A hA)) (q91 (Sub.and_left x y) hB (claim B hB));rw [q06, Bool.and_eq_true] at j1 j2;exact qqm.2 ⟨j, j1.1, j2.1⟩ hAB
theorem qxv (h : PairOk n lo hi) (hn : n ≤ 10) {b : Nat} (hb : isB lo hi b = true) : Sub (ndiff (full lo) (decl lo)) b := by
 obtain ⟨ab, _⟩ := (qav h hn).1 hb;intro i hi;rw [q06, Bool.and_eq_true, Bool.not_eq_true'] at hi;cases hbi : b.testBit i with
 | true => rfl
 | false =>
  have hr : (ndiff (full lo) b).testBit i = true := by rw [q06, hi.1, hbi]; rfl
  rcases ab with ab | ab
  ·rw [ab, Nat.zero_testBit] at hr; cases hr
  ·have := ab.2.1 i hr;rw [← h.dec, hi.2] at this;cases this
def alls (lo hi : Config) (ill : Nat) : List Nat := (q1g (full lo)).filter fun b => ndiff ill b == 0 && isB lo hi b
theorem q3h {ill b : Nat} : b ∈ alls lo hi ill ↔ Sub b (full lo) ∧ Sub ill b ∧ isB lo hi b = true := by
 unfold alls;rw [List.mem_filter, q0u, Bool.and_eq_true, beq_iff_eq, q33]
theorem qlt (h : PairOk n lo hi) (hn : n ≤ 10) {ill : Nat} (hill : Sub ill (full lo)) : full lo ∈ alls lo hi ill := q3h.2 ⟨Sub.refl _, hill, qx2 h hn⟩
def ands : List Nat → Nat → Nat := fun l a => l.foldl (fun a b => a &&& b) a
theorem qkc {p : Nat → Prop} (hp : ∀ a b, p a → p b → p (a &&& b)) : ∀ (l : List Nat) (a : Nat), p a → (∀ b ∈ l, p b) → p (ands l a)
 | [], _, ha, _ => ha
 | x :: l, a, ha, h => qkc hp l (a &&& x) (hp a x ha (h x (by simp))) (fun b hb => h b (by simp [hb]))
def bef (lo hi : Config) (ill : Nat) : Nat := if q4y lo ill then full lo else ands (alls lo hi ill) (full lo)
theorem y00 (h : PairOk n lo hi) (hn : n ≤ 10) {ill : Nat} (hill : Sub ill (full lo)) (hs : q4y lo ill = false) : bef lo hi ill ∈ alls lo hi ill := by
 unfold bef;rw [hs];exact qkc (p := fun b => b ∈ alls lo hi ill) (fun a b ha hb => by
  obtain ⟨a1, a2, a3⟩ := q3h.1 ha;obtain ⟨b1, b2, b3⟩ := q3h.1 hb;exact q3h.2 ⟨(Sub.and_left _ _).trans a1, fun i hi => by rw [Nat.testBit_and, a2 i hi, b2 i hi]; rfl, meets h hn a3 b3 hs a2 b2 a1 b1⟩) _ _ (qlt h hn hill) fun b hb => hb
theorem qsr (h : PairOk n lo hi) (hn : n ≤ 10) {ill : Nat} (hill : Sub ill (full lo)) (h0 : ndiff (full lo) (bef lo hi ill) ≠ 0) : q4y lo ill = false ∧ q1v hi (ndiff (full lo) (bef lo hi ill)) := by
 cases hs : q4y lo ill with
 | true =>
  exfalso; apply h0;rw [q33]; unfold bef; rw [hs]; exact Sub.refl _
 | false =>
  obtain ⟨_, _, hb⟩ := q3h.1 (y00 h hn hill hs);exact ⟨rfl, ((qav h hn).1 hb).1.resolve_left h0⟩
theorem y1p {c : Config} (h : ConfOk n c) (_hn : n ≤ 10) {k : Nat} (hk : (decl c).testBit k = true) : Sub (uses (tr c k)) (full c) := by
 obtain ⟨m, m1, m2, m3⟩ := q4m hk;have := (h.good m (List.mem_of_getElem? m1) m3).2;rw [m2];exact qb1.1 (qhh _ this)
theorem qyd {c : Config} (h : ConfOk n c) (hn : n ≤ 10) {k s z : Nat} (hk : (decl c).testBit k = true) (hs : ∀ i, (full c).testBit i = true → s.testBit i = z.testBit i) : sat s (tr c k) = sat z (tr c k) := by
 apply qp4;intro j hj;obtain ⟨i, rfl, hi, hb⟩ := qhr hj;rw [q3v hi, q3v hi];exact hs i (y1p h hn hk i hb)
theorem follows (h : PairOk n lo hi) (hn : n ≤ 10) {ill x g : Nat} (hill : Sub ill (full lo)) (hg : q1v lo g) (h0 : g &&& ndiff (full lo) (bef lo hi ill) ≠ 0) (hx : Sub (g &&& ndiff (full lo) (bef lo hi ill)) x) (hne : ¬ Sub (ndiff (full lo) (bef lo hi ill)) x) :
  ∃ v, (ndiff (full lo) (bef lo hi ill)).testBit v = true ∧ x.testBit v = false ∧ blk lo v (ndiff (full lo) (bef lo hi ill) &&& x) = true := by
 have hle := h.lok.le10 hn;have ha0 : ndiff (full lo) (bef lo hi ill) ≠ 0 := by
  obtain ⟨i, _, h2⟩ := qqm.1 h0;exact nz.2 ⟨i, h2⟩
 obtain ⟨hs, hq⟩ := qsr h hn hill ha0;have hb := y00 h hn hill hs;obtain ⟨_, _, hbi⟩ := q3h.1 hb;have hsb := ((qav h hn).1 hbi).2;generalize hB : bef lo hi ill = b at *;apply Classical.byContradiction;intro hno;have hno' : ∀ v, (ndiff (full lo) b).testBit v = true → x.testBit v = false → blk lo v (ndiff (full lo) b &&& x) = false := fun v h1 h2 => by
  cases hk : blk lo v (ndiff (full lo) b &&& x) with
  | false => rfl
  | true => exact absurd ⟨v, h1, h2, hk⟩ hno
 have hdec : Sub (ndiff (full lo) b) (decl lo) := by rw [h.dec]; exact hq.2.1
 have hW0 : ndiff (ndiff (full lo) b) x ≠ 0 := fun e => hne (q33.1 e)
 have hW : QL lo b (ndiff (ndiff (full lo) b) x) := by
  refine ⟨hW0, fun i hi => hdec i ?_, fun i hi => ?_, fun k hk => ?_⟩
  ·rw [q06, Bool.and_eq_true] at hi; exact hi.1
  ·rw [q06, q06] at hi; simp only [Bool.and_eq_true, Bool.not_eq_true'] at hi; exact hi.1.2
  ·rw [q06 (ndiff (full lo) b) x, Bool.and_eq_true, Bool.not_eq_true'] at hk;have hkd := hdec k hk.1;have := hno' k hk.1 hk.2;unfold blk at this;rw [hkd, Bool.true_and, Bool.not_eq_false'] at this;rw [← this];apply qyd h.lok hn hkd;intro i hi;have h10 : (1023 : Nat).testBit i = true := by
    rw [qbi, decide_eq_true_eq] at hi;rw [qnf, decide_eq_true_eq]; omega
   rw [Nat.testBit_or, Nat.testBit_or, q06, q06, q06, Nat.testBit_and, q06, qga, hi, h10];by_cases hki : k = i
   ·subst hki; rw [hk.2];have := hk.1;rw [q06, hi, Bool.true_and] at this;simp [this]
   ·rw [decide_eq_false hki];cases b.testBit i <;> cases x.testBit i <;> rfl
 have hgl := q91 (qre b) (y1j hg) (by
  obtain ⟨i, h1, h2⟩ := qqm.1 h0;rw [q06, Bool.and_eq_true, Bool.not_eq_true'] at h2;exact qir.2 ⟨i, h1, h2.2⟩)
 obtain ⟨i, i1, i2⟩ := qij hle hsb hW hgl;rw [q06, Bool.and_eq_true, Bool.not_eq_true'] at i1;rw [q06, Bool.and_eq_true] at i2;have := hx i (by rw [Nat.testBit_and, i2.1, i1.1]; rfl)
 rw [i1.2] at this;cases this
def q3r (c : Config) (b v : Nat) : Bool := !(decl c).testBit v || !sat (ndiff (full c) b) (tr c v)
theorem qay {c : Config} (hn : c.Members.length ≤ 10) {b : Nat} : q85 c b = (nodes (ndiff (full c) b)).all fun v => !q3r c b v := by
 rw [Bool.eq_iff_iff, qlb hn, List.all_eq_true];have hlt := q8a hn b;constructor
 ·intro h v hv;obtain ⟨hv, _⟩ := q1p.1 hv;rcases h with h | h
  ·rw [h, Nat.zero_testBit] at hv; cases hv
  ·simp [q3r, h.2.1 v hv, h.2.2 v hv]
 ·intro h;by_cases h0 : ndiff (full c) b = 0
  ·exact .inl h0
  ·have hx : ∀ v, (ndiff (full c) b).testBit v = true → (decl c).testBit v = true ∧ sat (ndiff (full c) b) (tr c v) = true := fun v hv => by
    have := h v (q1p.2 ⟨hv, q4o hlt hv⟩);simp only [q3r, Bool.not_or, Bool.not_not, Bool.and_eq_true] at this;exact this
   exact .inr ⟨h0, fun v hv => (hx v hv).1, fun v hv => (hx v hv).2⟩
def refR (lo hi : Config) (b : Nat) : Int × Int × Int × Int :=
 match (nodes (ndiff (full hi) b)).find? (q3r hi b) with
 | some v => ((v : Int), 0, 0, 0)
 | none => if twoB (delC b lo) then (-1, ((apart (delC b lo)).1 : Int), ((apart (delC b lo)).2 : Int), 0) else (0, 0, 0, 11)
def quoZ (c : Config) (z : Int) : Bool := okS z && quoB c z.toNat
def chkB (lo hi : Config) (b : Nat) (x y z : Int) : Bool :=
 if 0 ≤ x then decide (y = 0) && (decide (z = 0) && (has (ndiff (full hi) b) x && q3r hi b x.toNat))
 else decide (x = -1) && (quoZ (delC b lo) y && (quoZ (delC b lo) z && y.toNat &&& z.toNat == 0))
theorem qit {c : Config} {z : Int} (h : quoZ c z = true) : ∃ s : Nat, z = (s : Int) ∧ q1v c s := by
 unfold quoZ at h;rw [Bool.and_eq_true] at h;obtain ⟨s, rfl, hs⟩ := qqj h.1;exact ⟨s, rfl, (q9q hs).1 h.2⟩
theorem qpx {c : Config} {s : Nat} (h : q1v c s) : quoZ c (s : Int) = true := by
 unfold quoZ;rw [q7q (qi7 h), Bool.true_and];exact (q9q (qi7 h)).2 h
theorem y2m (h : PairOk n lo hi) (hn : n ≤ 10) {b : Nat} {x y z : Int} (hc : chkB lo hi b x y z = true) : isB lo hi b = false := by
 cases hb : isB lo hi b with
 | false => rfl
 | true =>
  exfalso;unfold isB at hb;rw [Bool.and_eq_true, Bool.not_eq_true', qay (h.hik.le10 hn), List.all_eq_true] at hb;unfold chkB at hc;split at hc
  ·simp only [Bool.and_eq_true, decide_eq_true_eq] at hc;obtain ⟨_, _, h3, h4⟩ := hc;obtain ⟨v, rfl, hv, hbv⟩ := qhr h3;have := hb.1 v (q1p.2 ⟨hbv, hv⟩);rw [Int.toNat_natCast] at h4;rw [h4] at this;cases this
  ·simp only [Bool.and_eq_true, decide_eq_true_eq, beq_iff_eq] at hc;obtain ⟨_, h2, h3, h4⟩ := hc;obtain ⟨s, rfl, hs⟩ := qit h2;obtain ⟨t, rfl, ht⟩ := qit h3;have := (qpw (c := delC b lo) (by rw [qeg]; exact h.lok.le10 hn)).2 ⟨s, t, hs, ht, h4⟩
   unfold q4y at hb;rw [this] at hb;cases hb.2
theorem qvk (h : PairOk n lo hi) (hn : n ≤ 10) {b : Nat} (hb : isB lo hi b = false) : (refR lo hi b).2.2.2 = 0 ∧ chkB lo hi b (refR lo hi b).1 (refR lo hi b).2.1 (refR lo hi b).2.2.1 = true := by
 unfold refR;cases hf : (nodes (ndiff (full hi) b)).find? (q3r hi b) with
 | some v =>
  have h1 := List.find?_some hf;obtain ⟨hv, hv10⟩ := q1p.1 (List.mem_of_find?_eq_some hf);refine ⟨rfl, ?_⟩;unfold chkB;simp only;rw [if_pos (Int.natCast_nonneg v), q3v hv10, hv, Int.toNat_natCast, h1];rfl
 | none =>
  have hav : q85 hi b = true := by
   rw [qay (h.hik.le10 hn), List.all_eq_true];intro v hv;have := List.find?_eq_none.1 hf v hv;simpa using this
  have htw : twoB (delC b lo) = true := by
   unfold isB q4y at hb;rw [hav, Bool.true_and, Bool.not_eq_false'] at hb;exact hb
  simp only [htw, if_true];refine ⟨trivial, ?_⟩;have hle : (delC b lo).Members.length ≤ 10 := by rw [qeg]; exact h.lok.le10 hn
  rcases apart_spec hle with ⟨h1, _, _⟩ | ⟨h1, h2, h3, _⟩
  ·unfold twoB at htw;rw [h1] at htw; cases htw
  ·unfold chkB;rw [if_neg (by decide), qpx h1, qpx h2, Int.toNat_natCast, Int.toNat_natCast, h3]
   rfl
theorem qyg (h : PairOk n lo hi) (hn : n ≤ 10) {b : Nat} (hb : isB lo hi b = true) : refR lo hi b = (0, 0, 0, 11) := by
 unfold isB q4y at hb;rw [Bool.and_eq_true, Bool.not_eq_true', qay (h.hik.le10 hn), List.all_eq_true] at hb;unfold refR;have hf : (nodes (ndiff (full hi) b)).find? (q3r hi b) = none := by
  rw [List.find?_eq_none];intro v hv;have := hb.1 v hv;simpa using this
 rw [hf, hb.2];rfl
end Go.Proofs.YtbmelgbadedbbaaGreat
