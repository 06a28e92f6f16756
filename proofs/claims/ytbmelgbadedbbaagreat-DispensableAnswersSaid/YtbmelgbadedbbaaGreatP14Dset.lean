/- Dispensable and intact, without a program: pairs of configurations, what is left of quorums, the theorem of dispensable sets, the qwo. -/
import Derived.Test.YtbmelgbadedbbaaGreatP14Danger
namespace Go.Proofs.YtbmelgbadedbbaaGreat
open Go Go.Ab Go.Sort
theorem nz {a : Nat} : a ≠ 0 ↔ ∃ i, a.testBit i = true := ⟨qyl, fun ⟨i, hi⟩ e => by rw [e, Nat.zero_testBit] at hi; cases hi⟩
theorem qrj {a b : Nat} : a &&& b ≠ 0 ↔ ∃ i, a.testBit i = true ∧ b.testBit i = true := by
 rw [nz]; simp only [Nat.testBit_and, Bool.and_eq_true]
theorem qk9 {a b : Nat} : ndiff a b ≠ 0 ↔ ∃ i, a.testBit i = true ∧ b.testBit i = false := by
 rw [nz]; simp only [q07, Bool.and_eq_true, Bool.not_eq_true']
def full (c : Config) : Nat := 2 ^ c.Members.length - 1
theorem q9w {c : Config} {i : Nat} : (full c).testBit i = decide (i < c.Members.length) := by rw [full, Nat.testBit_two_pow_sub_one]
theorem q9f {c : Config} (hn : c.Members.length ≤ 10) : full c < 1024 := by have := pow10 hn; unfold full; omega
theorem qna {c : Config} {s : Nat} : s < 2 ^ c.Members.length ↔ Sub s (full c) := q1k
theorem qv9 {c : Config} (hn : c.Members.length ≤ 10) : Sub (decl c) (full c) := qna.1 (q8l hn)
structure PairOk (n : Nat) (lo hi : Config) : Prop where
 lok : ConfOk n lo
 hik : ConfOk n hi
 len : lo.Members.length = hi.Members.length
 dec : decl lo = decl hi
 imp : ∀ k s, (decl lo).testBit k = true → s < 1024 → sat s (tr hi k) = true → sat s (tr lo k) = true
variable {n : Nat} {lo hi : Config}
theorem PairOk.self {c : Config} (h : ConfOk n c) : PairOk n c c := ⟨h, h, rfl, rfl, fun _ _ _ _ h => h⟩
theorem PairOk.fullEq (h : PairOk n lo hi) : full lo = full hi := by unfold full; rw [h.len]
theorem qji (h : PairOk n lo hi) {q : Nat} (hq : q23 hi q) : q23 lo q :=
 ⟨hq.1, by rw [h.dec]; exact hq.2.1, fun k hk => h.imp k q (by rw [h.dec]; exact hq.2.1 k hk) (qr3 hq) (hq.2.2 k hk)⟩
theorem qj5 {s z : Nat} (h : Sub s z) {t : Trust} (hs : sat s t = true) : sat z t = true := qrp (qom h) t hs
theorem y7a {c : Config} {a b : Nat} (ha : q23 c a) (hb : q23 c b) : q23 c (a ||| b) := by
 refine ⟨fun e => ha.1 (Nat.le_zero.1 (e ▸ (Nat.left_le_or : a ≤ a ||| b))), ha.2.1.or hb.2.1, fun k hk => ?_⟩
 rw [Nat.testBit_or, Bool.or_eq_true] at hk;rcases hk with hk | hk
 ·exact qj5 Sub.left (ha.2.2 k hk)
 ·exact qj5 Sub.right (hb.2.2 k hk)
def QL (c : Config) (b y : Nat) : Prop := y ≠ 0 ∧ Sub y (decl c) ∧ (∀ i, y.testBit i = true → b.testBit i = false) ∧ ∀ k, y.testBit k = true → sat (y ||| b) (tr c k) = true
theorem y3r {c : Config} {b y : Nat} : q23 (delC b c) y ↔ QL c b y := by
 constructor
 ·intro h;have hd : ∀ i, y.testBit i = true → b.testBit i = false := fun i hi => (q3h.1 (h.2.1 i hi)).2
  have h' := (qhp (qr3 h) hd).1 h;exact ⟨h'.1, h'.2.1, hd, h'.2.2⟩
 ·rintro ⟨h1, h2, h3, h4⟩;exact (qhp (h2.lt (q81 c)) h3).2 ⟨h1, h2, h4⟩
theorem q9d {c : Config} {b d y : Nat} (hbd : Sub b d) (h : QL c b y) (h0 : ndiff y d ≠ 0) : QL c d (ndiff y d) := by
 refine ⟨h0, fun i hi => h.2.1 i ?_, fun i hi => ?_, fun k hk => ?_⟩
 ·rw [q07, Bool.and_eq_true] at hi; exact hi.1
 ·rw [q07, Bool.and_eq_true, Bool.not_eq_true'] at hi; exact hi.2
 ·rw [q07, Bool.and_eq_true] at hk;rw [qnw];refine qj5 (fun i hi => ?_) (h.2.2.2 k hk.1)
  rw [Nat.testBit_or, Bool.or_eq_true] at hi ⊢;exact hi.imp id (hbd i)
theorem y0a {c : Config} {q : Nat} (h : q23 c q) : QL c 0 q := ⟨h.1, h.2.1, fun i _ => Nat.zero_testBit i, fun k hk => by rw [Nat.or_zero]; exact h.2.2 k hk⟩
theorem qpe (b : Nat) : Sub 0 b := fun i hi => by rw [Nat.zero_testBit] at hi; cases hi
theorem qke {c : Config} {b q : Nat} (h : q23 c q) (hd : ∀ i, q.testBit i = true → b.testBit i = false) : QL c b q :=
 ⟨h.1, h.2.1, hd, fun k hk => qj5 Sub.left (h.2.2 k hk)⟩
theorem qgs {c : Config} (hn : c.Members.length ≤ 10) {b : Nat} : q89 c b = true ↔ ∃ x y, QL c b x ∧ QL c b y ∧ x &&& y = 0 := by
 unfold q89;rw [qx8 (by rw [qpn]; exact hn)]
 simp only [y3r]
theorem qiz {c : Config} (hn : c.Members.length ≤ 10) {b x y : Nat} (h : q89 c b = false) (hx : QL c b x) (hy : QL c b y) : ∃ i, x.testBit i = true ∧ y.testBit i = true := by
 apply qrj.1;intro e;rw [(qgs hn).2 ⟨x, y, hx, hy, e⟩] at h;cases h
def qbh (c : Config) (b : Nat) : Bool := ndiff (full c) b == 0 || quoB c (ndiff (full c) b)
def isB (lo hi : Config) (b : Nat) : Bool := qbh hi b && !q89 lo b
theorem qb0 {c : Config} (hn : c.Members.length ≤ 10) (b : Nat) : ndiff (full c) b < 1024 := q6y (q9f hn)
theorem qvm {c : Config} (hn : c.Members.length ≤ 10) {b : Nat} : qbh c b = true ↔ ndiff (full c) b = 0 ∨ q23 c (ndiff (full c) b) := by
 unfold qbh;rw [Bool.or_eq_true, beq_iff_eq, qbn (qb0 hn b)]
theorem ConfOk.le10 {c : Config} (h : ConfOk n c) (hn : n ≤ 10) : c.Members.length ≤ 10 := Nat.le_trans h.le hn
theorem qcz (h : PairOk n lo hi) (hn : n ≤ 10) {b : Nat} : isB lo hi b = true ↔ (ndiff (full lo) b = 0 ∨ q23 hi (ndiff (full lo) b)) ∧ q89 lo b = false := by
 unfold isB;rw [Bool.and_eq_true, qvm (h.hik.le10 hn), ← h.fullEq, Bool.not_eq_true']
theorem q3r {a b : Nat} : ndiff a b = 0 ↔ Sub a b := by rw [← q5v, subB, beq_iff_eq]
theorem qxn (h : PairOk n lo hi) (hn : n ≤ 10) : isB lo hi (full lo) = true := by
 rw [qcz h hn];refine ⟨.inl (q3r.2 (Sub.refl _)), ?_⟩;rw [← Bool.not_eq_true, qgs (h.lok.le10 hn)];rintro ⟨x, _, ⟨h1, h2, h3, _⟩, _⟩;obtain ⟨i, hi⟩ := nz.1 h1;have := qv9 (h.lok.le10 hn) i (h2 i hi);rw [h3 i hi] at this;cases this
theorem meets (h : PairOk n lo hi) (hn : n ≤ 10) {ill x y : Nat} (hx : isB lo hi x = true) (hy : isB lo hi y = true) (hill : q89 lo ill = false) (ix : Sub ill x) (iy : Sub ill y) (lx : Sub x (full lo)) (ly : Sub y (full lo)) : isB lo hi (x &&& y) = true := by
 have hle := h.lok.le10 hn;obtain ⟨ax, sx⟩ := (qcz h hn).1 hx;obtain ⟨ay, sy⟩ := (qcz h hn).1 hy;rcases ax with ax | ax
 ·rw [show x &&& y = y from (Sub.and_right x y).antisymm (fun i hi => by rw [Nat.testBit_and, q3r.1 ax i (ly i hi), hi]; rfl)]
  exact hy
 rcases ay with ay | ay
 ·rw [show x &&& y = x from (Sub.and_left x y).antisymm (fun i hi => by rw [Nat.testBit_and, q3r.1 ay i (lx i hi), hi]; rfl)]
  exact hx
 have hU : ndiff (full lo) (x &&& y) = ndiff (full lo) x ||| ndiff (full lo) y := by
  apply Nat.eq_of_testBit_eq;intro i;simp only [Nat.testBit_or, q07, Nat.testBit_and];cases (full lo).testBit i <;> cases x.testBit i <;> cases y.testBit i <;> rfl
 rw [qcz h hn, hU];refine ⟨.inr (y7a ax ay), ?_⟩;have bx : ∀ i, (ndiff (full lo) x).testBit i = true → x.testBit i = false := fun i hi => by
  rw [q07, Bool.and_eq_true, Bool.not_eq_true'] at hi; exact hi.2
 have by' : ∀ i, (ndiff (full lo) y).testBit i = true → y.testBit i = false := fun i hi => by
  rw [q07, Bool.and_eq_true, Bool.not_eq_true'] at hi; exact hi.2
 have off : ∀ {a b : Nat}, Sub a b → ∀ i, b.testBit i = false → a.testBit i = false := fun {a b} hs i hi => by
  cases ha : a.testBit i with
  | false => rfl
  | true => rw [hs i ha] at hi; cases hi
 obtain ⟨m, m1, m2⟩ := qiz hle hill (qke (qji h ax) fun i hi => off ix i (bx i hi)) (qke (qji h ay) fun i hi => off iy i (by' i hi))
 have claim : ∀ A, QL lo (x &&& y) A → ndiff A x ≠ 0 := by
  intro A hA h0;have hsub := q3r.1 h0;obtain ⟨i, hi⟩ := nz.1 hA.1;have hxy := hA.2.2.1 i hi;rw [Nat.testBit_and, hsub i hi, Bool.true_and] at hxy;have hAy := q9d (Sub.and_right x y) hA (qk9.2 ⟨i, hi, hxy⟩);have hUy := q9d (qpe y) (y0a (qji h ax)) (qk9.2 ⟨m, m1, by' m m2⟩)
  obtain ⟨j, j1, j2⟩ := qiz hle sy hAy hUy;rw [q07, Bool.and_eq_true] at j1 j2;have := bx j j2.1;rw [hsub j j1.1] at this;cases this
 rw [← Bool.not_eq_true, qgs hle];rintro ⟨A, B, hA, hB, hAB⟩;obtain ⟨j, j1, j2⟩ := qiz hle sx (q9d (Sub.and_left x y) hA (claim A hA)) (q9d (Sub.and_left x y) hB (claim B hB));rw [q07, Bool.and_eq_true] at j1 j2;exact qrj.2 ⟨j, j1.1, j2.1⟩ hAB
def alls (lo hi : Config) (ill : Nat) : List Nat := (q1j (full lo)).filter fun b => ndiff ill b == 0 && isB lo hi b
theorem qa4 {ill b : Nat} : b ∈ alls lo hi ill ↔ Sub b (full lo) ∧ Sub ill b ∧ isB lo hi b = true := by
 unfold alls;rw [List.mem_filter, q0x, Bool.and_eq_true, beq_iff_eq, q3r]
theorem qvd (h : PairOk n lo hi) (hn : n ≤ 10) {ill : Nat} (hill : Sub ill (full lo)) : full lo ∈ alls lo hi ill := qa4.2 ⟨Sub.refl _, hill, qxn h hn⟩
def ands : List Nat → Nat → Nat := fun l a => l.foldl (fun a b => a &&& b) a
theorem qln {p : Nat → Prop} (hp : ∀ a b, p a → p b → p (a &&& b)) : ∀ (l : List Nat) (a : Nat), p a → (∀ b ∈ l, p b) → p (ands l a)
 | [], _, ha, _ => ha
 | x :: l, a, ha, h => qln hp l (a &&& x) (hp a x ha (h x (by simp))) (fun b hb => h b (by simp [hb]))
def bef (lo hi : Config) (ill : Nat) : Nat := if q89 lo ill then full lo else ands (alls lo hi ill) (full lo)
theorem y1l (h : PairOk n lo hi) (hn : n ≤ 10) {ill : Nat} (hill : Sub ill (full lo)) (hs : q89 lo ill = false) : bef lo hi ill ∈ alls lo hi ill := by
 unfold bef;rw [hs];exact qln (p := fun b => b ∈ alls lo hi ill) (fun a b ha hb => by
  obtain ⟨a1, a2, a3⟩ := qa4.1 ha;obtain ⟨b1, b2, b3⟩ := qa4.1 hb;exact qa4.2 ⟨(Sub.and_left _ _).trans a1, fun i hi => by rw [Nat.testBit_and, a2 i hi, b2 i hi]; rfl, meets h hn a3 b3 hs a2 b2 a1 b1⟩) _ _ (qvd h hn hill) fun b hb => hb
theorem qsg (h : PairOk n lo hi) (hn : n ≤ 10) {ill : Nat} (hill : Sub ill (full lo)) (h0 : ndiff (full lo) (bef lo hi ill) ≠ 0) : q89 lo ill = false ∧ q23 hi (ndiff (full lo) (bef lo hi ill)) := by
 cases hs : q89 lo ill with
 | true =>
  exfalso; apply h0;rw [q3r]; unfold bef; rw [hs]; exact Sub.refl _
 | false =>
  obtain ⟨_, _, hb⟩ := qa4.1 (y1l h hn hill hs);exact ⟨rfl, ((qcz h hn).1 hb).1.resolve_left h0⟩
theorem y2z {c : Config} (h : ConfOk n c) (_hn : n ≤ 10) {k : Nat} (hk : (decl c).testBit k = true) : Sub (uses (tr c k)) (full c) := by
 obtain ⟨m, m1, m2, m3⟩ := q4o hk;have := (h.good m (List.mem_of_getElem? m1) m3).2;rw [m2];exact qna.1 (qhk _ this)
theorem qxs {c : Config} (h : ConfOk n c) (hn : n ≤ 10) {k s z : Nat} (hk : (decl c).testBit k = true) (hs : ∀ i, (full c).testBit i = true → s.testBit i = z.testBit i) : sat s (tr c k) = sat z (tr c k) := by
 apply qrm;intro j hj;obtain ⟨i, rfl, hi, hb⟩ := qmi hj;rw [q43 hi, q43 hi];exact hs i (y2z h hn hk i hb)
theorem follows (h : PairOk n lo hi) (hn : n ≤ 10) {ill x g : Nat} (hill : Sub ill (full lo)) (hg : q23 lo g) (h0 : g &&& ndiff (full lo) (bef lo hi ill) ≠ 0) (hx : Sub (g &&& ndiff (full lo) (bef lo hi ill)) x) (hne : ¬ Sub (ndiff (full lo) (bef lo hi ill)) x) :
  ∃ v, (ndiff (full lo) (bef lo hi ill)).testBit v = true ∧ x.testBit v = false ∧ blk lo v (ndiff (full lo) (bef lo hi ill) &&& x) = true := by
 have hle := h.lok.le10 hn;have ha0 : ndiff (full lo) (bef lo hi ill) ≠ 0 := by
  obtain ⟨i, _, h2⟩ := qrj.1 h0;exact nz.2 ⟨i, h2⟩
 obtain ⟨hs, hq⟩ := qsg h hn hill ha0;have hb := y1l h hn hill hs;obtain ⟨_, _, hbi⟩ := qa4.1 hb;have hsb := ((qcz h hn).1 hbi).2;generalize hB : bef lo hi ill = b at *;apply Classical.byContradiction;intro hno;have hno' : ∀ v, (ndiff (full lo) b).testBit v = true → x.testBit v = false → blk lo v (ndiff (full lo) b &&& x) = false := fun v h1 h2 => by
  cases hk : blk lo v (ndiff (full lo) b &&& x) with
  | false => rfl
  | true => exact absurd ⟨v, h1, h2, hk⟩ hno
 have hdec : Sub (ndiff (full lo) b) (decl lo) := by rw [h.dec]; exact hq.2.1
 have hW0 : ndiff (ndiff (full lo) b) x ≠ 0 := fun e => hne (q3r.1 e)
 have hW : QL lo b (ndiff (ndiff (full lo) b) x) := by
  refine ⟨hW0, fun i hi => hdec i ?_, fun i hi => ?_, fun k hk => ?_⟩
  ·rw [q07, Bool.and_eq_true] at hi; exact hi.1
  ·rw [q07, q07] at hi; simp only [Bool.and_eq_true, Bool.not_eq_true'] at hi; exact hi.1.2
  ·rw [q07 (ndiff (full lo) b) x, Bool.and_eq_true, Bool.not_eq_true'] at hk;have hkd := hdec k hk.1;have := hno' k hk.1 hk.2;unfold blk at this;rw [hkd, Bool.true_and, Bool.not_eq_false'] at this;rw [← this];apply qxs h.lok hn hkd;intro i hi;have h10 : (1023 : Nat).testBit i = true := by
    rw [q9w, decide_eq_true_eq] at hi;rw [qn6, decide_eq_true_eq]; omega
   rw [Nat.testBit_or, Nat.testBit_or, q07, q07, q07, Nat.testBit_and, q07, qf6, hi, h10];by_cases hki : k = i
   ·subst hki; rw [hk.2];have := hk.1;rw [q07, hi, Bool.true_and] at this;simp [this]
   ·rw [decide_eq_false hki];cases b.testBit i <;> cases x.testBit i <;> rfl
 have hgl := q9d (qpe b) (y0a hg) (by
  obtain ⟨i, h1, h2⟩ := qrj.1 h0;rw [q07, Bool.and_eq_true, Bool.not_eq_true'] at h2;exact qk9.2 ⟨i, h1, h2.2⟩)
 obtain ⟨i, i1, i2⟩ := qiz hle hsb hW hgl;rw [q07, Bool.and_eq_true, Bool.not_eq_true'] at i1;rw [q07, Bool.and_eq_true] at i2;have := hx i (by rw [Nat.testBit_and, i2.1, i1.1]; rfl)
 rw [i1.2] at this;cases this
def q46 (c : Config) (b v : Nat) : Bool := !(decl c).testBit v || !sat (ndiff (full c) b) (tr c v)
def refR (lo hi : Config) (b : Nat) : Int × Int × Int × Int :=
 match (nodes (ndiff (full hi) b)).find? (q46 hi b) with
 | some v => ((v : Int), 0, 0, 0)
 | none => if twoB (delC b lo) then (-1, ((apart (delC b lo)).1 : Int), ((apart (delC b lo)).2 : Int), 0) else (0, 0, 0, 11)
def quoZ (c : Config) (z : Int) : Bool := okS z && quoB c z.toNat
def chkB (lo hi : Config) (b : Nat) (x y z : Int) : Bool :=
 if 0 ≤ x then decide (y = 0) && (decide (z = 0) && (has (ndiff (full hi) b) x && q46 hi b x.toNat))
 else decide (x = -1) && (quoZ (delC b lo) y && (quoZ (delC b lo) z && y.toNat &&& z.toNat == 0))
theorem que {c : Config} {z : Int} (h : quoZ c z = true) : ∃ s : Nat, z = (s : Int) ∧ q23 c s := by
 unfold quoZ at h;rw [Bool.and_eq_true] at h;obtain ⟨s, rfl, hs⟩ := qpu h.1;exact ⟨s, rfl, (qbn hs).1 h.2⟩
end Go.Proofs.YtbmelgbadedbbaaGreat
