/- Quorums and the q21 quorum: what the reference computes, and what it means. -/
import Derived.Test.YtbmelgbadedbbaaGreatP14Sets
namespace Go.Proofs.YtbmelgbadedbbaaGreat
open Go Go.Ab
def q23 (c : Config) (s : Nat) : Prop := s ≠ 0 ∧ Sub s (decl c) ∧ ∀ k, s.testBit k = true → sat s (tr c k) = true
def q0l (c : Config) : Prop := c.Members.length < 1152921504606846976 ∧ ∀ m ∈ c.Members, Small m.Trust
theorem q2z {t : Trust} (h : valid t = true) : Small t := by
 simp only [valid, Bool.and_eq_true, decide_eq_true_eq] at h;unfold Small; omega
theorem ConfOk.good {n : Nat} {c : Config} (h : ConfOk n c) : ∀ m ∈ c.Members, m.Declared = true → Good (c.Members.length : Int) m.Trust := fun m hm hd => by
 have := h.mem m hm;unfold MemOk at this
 rwa [if_pos hd] at this
theorem q4o {c : Config} {k : Nat} (h : (decl c).testBit k = true) : ∃ m, c.Members[k]? = some m ∧ tr c k = m.Trust ∧ m.Declared = true := by
 obtain ⟨_, m, h1, h2⟩ := q2w.1 h;exact ⟨m, h1, by simp [tr, h1], h2⟩
theorem qma {c : Config} {s : Nat} (hs : s < 1024) (hd : Sub s (decl c)) (hc : q0l c) (l : List Nat) (hl : l.length ≤ 10) : ∀ (suf : List Nat) (i : Nat), l.drop i = suf → (∀ k ∈ suf, s.testBit k = true) →
  ∃ r, z2o (s : Int) (l.map Int.ofNat) ((l.length : Nat) : Int) (i : Int) c.Members = some r ∧ (r = true ↔ ∀ k ∈ suf, sat s (tr c k) = true)
 | [], i, h, hm => by
  refine ⟨true, ?_, by simp⟩
  apply y1g;rw [q0j h];rfl
 | k :: suf, i, h, hm => by
  have hlt := q0i h;obtain ⟨m, h1, h2, _⟩ := q4o (hd k (hm k (by simp)))
  have h' : (l.map Int.ofNat).drop i = (k : Int) :: suf.map Int.ofNat := by rw [← List.map_drop, h]; rfl
  obtain ⟨r, e1, e2⟩ := qma hs hd hc l hl suf (i + 1) (q04 h) (fun x hx => hm x (by simp [hx]))
  have step : ∀ res, (bif (!(sat s m.Trust)) then some false else z2o (s : Int) (l.map Int.ofNat) ((l.length : Nat) : Int) ((i + 1 : Nat) : Int) c.Members) = some res → z2o (s : Int) (l.map Int.ofNat) ((l.length : Nat) : Int) (i : Int) c.Members = some res := by
   intro res hres;apply y1g;rw [q03 (by omega), q08 h', q0v (by omega) (show c.Members[((k : Nat) : Int).toNat]? = some m by simpa using h1), q4p hs m.Trust (hc.2 m (List.mem_of_getElem? h1)), q02 (by omega)]
   exact hres
  cases hq : sat s (tr c k) with
  | true =>
   rw [h2] at hq;exact ⟨r, step r (by rw [hq]; exact e1), by rw [e2]; simp [h2, hq]⟩
  | false =>
   rw [h2] at hq;exact ⟨false, step false (by rw [hq]; rfl), by simp [h2, hq]⟩
theorem qvl {c : Config} {s : Nat} (hs : s < 1024) (hc : q0l c) : ∃ r, z22 c (s : Int) = some r ∧ (r = true ↔ q23 c s) := by
 by_cases h0 : s = 0
 ·refine ⟨false, ?_, by simp [q23, h0]⟩
  apply qqn;rw [q1f hs];simp only [Option.bind_some, Bool.not_true, cond_false, h0, Int.natCast_zero, q0p, cond_true]
 ·by_cases hd : Sub s (decl c)
  ·obtain ⟨r, e1, e2⟩ := qma hs hd hc (nodes s) (q74 s) (nodes s) 0 rfl (fun k hk => (q2s.1 hk).1)
   refine ⟨r, ?_, ?_⟩
   ·apply qqn;rw [q1f hs];simp only [Option.bind_some, Bool.not_true, cond_false, q0t (show (s : Int) ≠ 0 by omega), q3i c hc.1]
    rw [q3u (by omega) (by have := q81 c; omega), qd4.1 hd, q0d, qqp hs]
    simp only [cond_false, Option.bind_some, List.length_map];exact e1
   ·rw [e2];constructor
    ·intro h; exact ⟨h0, hd, fun k hk => h k (q2s.2 ⟨hk, q5p hs hk⟩)⟩
    ·intro h k hk; exact h.2.2 k (q2s.1 hk).1
  ·refine ⟨false, ?_, by simp [q23, hd]⟩
   apply qqn;rw [q1f hs];simp only [Option.bind_some, Bool.not_true, cond_false, q0t (show (s : Int) ≠ 0 by omega), q3i c hc.1]
   rw [q3u (by omega) (by have := q81 c; omega), q0s (by rw [qd4] at hd; omega)]
   rfl
theorem q5g {s k : Nat} (h : s.testBit k = true) (i : Nat) : (s - 2 ^ k).testBit i = (s.testBit i && decide (i ≠ k)) := by
 have hp := Nat.two_pow_pos k;have hodd : s / 2 ^ k % 2 = 1 := by
  have := h;rw [Nat.testBit_eq_decide_div_mod_eq, decide_eq_true_eq] at this; exact this
 have hr : s % 2 ^ k < 2 ^ k := Nat.mod_lt _ hp;have e0 : s = 2 ^ k * (2 * (s / 2 ^ k / 2) + 1) + s % 2 ^ k := by
  have e1 : 2 * (s / 2 ^ k / 2) + 1 = s / 2 ^ k := by omega
  rw [e1]; exact (Nat.div_add_mod s (2 ^ k)).symm
 generalize s / 2 ^ k / 2 = q at e0;generalize s % 2 ^ k = r at e0 hr;have e2 : s - 2 ^ k = 2 ^ k * (2 * q) + r := by rw [Nat.mul_add] at e0; omega
 rw [e2, e0, Nat.testBit_two_pow_mul_add _ hr, Nat.testBit_two_pow_mul_add _ hr];by_cases h1 : i < k
 ·have : i ≠ k := by omega
  simp [h1, this]
 ·rw [if_neg h1, if_neg h1];by_cases h2 : i = k
  ·subst h2; simp [Nat.testBit_zero]
  ·obtain ⟨d, hd⟩ : ∃ d, i - k = d + 1 := ⟨i - k - 1, by omega⟩
   rw [hd, Nat.testBit_succ, Nat.testBit_succ, show 2 * q / 2 = q by omega, show (2 * q + 1) / 2 = q by omega]
   simp [h2]
def q4g (c : Config) (s : Nat) : Option Nat := (nodes s).find? fun k => !sat s (tr c k)
def elim (c : Config) : Nat → Nat → List Nat × Nat
 | 0, s => ([], s)
 | n + 1, s => match q4g c s with
  | none => ([], s)
  | some k => (k :: (elim c n (s - 2 ^ k)).1, (elim c n (s - 2 ^ k)).2)
def q21 (c : Config) (s : Nat) : Nat := (elim c 1024 (s &&& decl c)).2
theorem q4q {c : Config} {s k : Nat} (h : q4g c s = some k) : s.testBit k = true ∧ k < 10 ∧ sat s (tr c k) = false := by
 unfold q4g at h;have h1 := List.find?_some h;have h2 := q2s.1 (List.mem_of_find?_eq_some h);exact ⟨h2.1, h2.2, by simpa using h1⟩
theorem qn4 {c : Config} {s : Nat} (hs : s < 1024) (h : q4g c s = none) : ∀ k, s.testBit k = true → sat s (tr c k) = true := by
 intro k hk;unfold q4g at h;have := List.find?_eq_none.1 h k (q2s.2 ⟨hk, q5p hs hk⟩);simpa using this
theorem qgp {s k : Nat} (h : s.testBit k = true) : s - 2 ^ k < s ∧ Sub (s - 2 ^ k) s := by
 have h1 : 2 ^ k ≤ s := Nat.ge_two_pow_of_testBit h;have := Nat.two_pow_pos k;refine ⟨by omega, fun i hi => ?_⟩
 rw [q5g h] at hi;simp only [Bool.and_eq_true] at hi;exact hi.1
theorem q9v (c : Config) : ∀ (n s : Nat), s < n → s < 1024 → Sub (elim c n s).2 s ∧ q4g c (elim c n s).2 = none ∧ (∀ q, Sub q s → (∀ k, q.testBit k = true → sat q (tr c k) = true) → Sub q (elim c n s).2)
 | 0, s, h, _ => by omega
 | n + 1, s, h, hs => by
  simp only [elim];cases hu : q4g c s with
  | none => exact ⟨Sub.refl s, hu, fun q hq _ => hq⟩
  | some k =>
   obtain ⟨h1, h2, h3⟩ := q4q hu;obtain ⟨h4, h5⟩ := qgp h1;obtain ⟨i1, i2, i3⟩ := q9v c n (s - 2 ^ k) (by omega) (by omega)
   refine ⟨i1.trans h5, i2, fun q hq hsat => i3 q (fun i hi => ?_) hsat⟩
   rw [q5g h1, hq i hi];have : i ≠ k := by
    rintro rfl;have := qrp (qom hq) _ (hsat i hi);rw [h3] at this; cases this
   simp [this]
theorem q8w (c : Config) {s : Nat} (hs : s < 1024) : Sub (q21 c s) (s &&& decl c) := by
 have hlt : s &&& decl c < 1024 := Nat.lt_of_le_of_lt Nat.and_le_left hs;exact (q9v c 1024 _ hlt hlt).1
theorem qny (c : Config) {s : Nat} (hs : s < 1024) : q21 c s < 1024 := ((q8w c hs).trans (Sub.and_left _ _)).lt hs
theorem qfs (c : Config) {s : Nat} (hs : s < 1024) (h0 : q21 c s ≠ 0) : q23 c (q21 c s) := by
 have hlt : s &&& decl c < 1024 := Nat.lt_of_le_of_lt Nat.and_le_left hs;exact ⟨h0, (q8w c hs).trans (Sub.and_right _ _), qn4 (qny c hs) (q9v c 1024 _ hlt hlt).2.1⟩
theorem qn5 (c : Config) {s : Nat} (hs : s < 1024) {q : Nat} (hq : q23 c q) (h : Sub q s) : Sub q (q21 c s) := by
 have hlt : s &&& decl c < 1024 := Nat.lt_of_le_of_lt Nat.and_le_left hs;refine (q9v c 1024 _ hlt hlt).2.2 q (fun i hi => ?_) hq.2.2
 rw [Nat.testBit_and, h i hi, hq.2.1 i hi]; rfl
theorem qc0 {a b : Nat} (h : b ≤ a) (ha : a < 4611686018427387904) : subI .i64 (a : Int) ((b : Nat) : Int) = ((a - b : Nat) : Int) := by
 rw [q22 (by omega) (by omega)]; omega
theorem ql5 {c : Config} {s : Nat} (hs : s < 1024) (hd : Sub s (decl c)) (hc : q0l c) (acc : List Int) (l : List Nat) (hl : l.length ≤ 10) : ∀ (suf : List Nat) (i : Nat), l.drop i = suf → (∀ k ∈ suf, s.testBit k = true) → acc.length < 1024 → ∀ res,
  (match suf.find? (fun k => !sat s (tr c k)) with
   | none => z42 (s : Int) acc false (l.map Int.ofNat) ((l.length : Nat) : Int) ((l.length : Nat) : Int) false c.Members
   | some k => z2b ((s - 2 ^ k : Nat) : Int) (acc ++ [(k : Int)]) true c.Members) = some res →
  i ≤ l.length → z1w (s : Int) acc false (l.map Int.ofNat) ((l.length : Nat) : Int) (i : Int) c.Members = some res
 | [], i, h, hm, ha, res, hres, hil => by
  have : i = l.length := by have := List.drop_eq_nil_iff.1 h; omega
  subst this;apply y1k;rw [q0j h];exact hres
 | k :: suf, i, h, hm, ha, res, hres, hil => by
  have hlt := q0i h;have hk := hm k (by simp)
  have hk10 := q5p hs hk;obtain ⟨m, h1, h2, _⟩ := q4o (hd k hk);have h' : (l.map Int.ofNat).drop i = (k : Int) :: suf.map Int.ofNat := by rw [← List.map_drop, h]; rfl
  apply y1k;rw [q03 (by omega), q08 h', q0v (by omega) (show c.Members[((k : Nat) : Int).toNat]? = some m by simpa using h1), q4p hs m.Trust (hc.2 m (List.mem_of_getElem? h1)), q02 (by omega)]
  simp only [cond_true, Option.bind_some];rw [List.find?_cons] at hres;cases hq : sat s (tr c k) with
  | true =>
   rw [← h2, hq];simp only [hq, Bool.not_true] at hres;simp only [Bool.not_true, cond_false];exact ql5 hs hd hc acc l hl suf (i + 1) (q04 h) (fun x hx => hm x (by simp [hx])) ha res hres (by omega)
  | false =>
   rw [← h2, hq];simp only [hq, Bool.not_false] at hres;simp only [Bool.not_false, cond_true];have hp : 2 ^ k ≤ s := Nat.ge_two_pow_of_testBit hk;rw [q0q (by omega), q06 (by simp [q0f]; omega), shl1 (by omega) (by omega), Int.toNat_natCast, qc0 hp (by omega)]
   exact hres
theorem qr5 (c : Config) : ∀ n s, s ≤ n → (elim c n s).1.length ≤ s
 | 0, s, _ => by simp [elim]
 | n + 1, s, h => by
  simp only [elim];cases hu : q4g c s with
  | none => simp
  | some k =>
   have := qgp (q4q hu).1;have := qr5 c n (s - 2 ^ k) (by omega)
   simp only [List.length_cons]; omega
theorem qpp {c : Config} (hc : q0l c) : ∀ (n s : Nat) (acc : List Int), s < n → s < 1024 → Sub s (decl c) → acc.length + s < 1024 → z2b (s : Int) acc true c.Members = some (acc ++ (elim c n s).1.map Int.ofNat)
 | 0, s, acc, h, _, _, _ => by omega
 | n + 1, s, acc, h, hs, hd, ha => by
  apply y7d;simp only [cond_true, qqp hs, Option.bind_some, List.length_map];refine ql5 hs hd hc acc (nodes s) (q74 s) (nodes s) 0 rfl (fun k hk => (q2s.1 hk).1) (by omega) _ ?_ (Nat.zero_le _)
  simp only [elim];rw [show (nodes s).find? (fun k => !sat s (tr c k)) = q4g c s from rfl]
  cases hu : q4g c s with
  | none =>
   simp only;apply y4v;simp
  | some k =>
   obtain ⟨h1, h2, h3⟩ := q4q hu;obtain ⟨h4, h5⟩ := qgp h1;simp only;rw [qpp hc n (s - 2 ^ k) _ (by omega) (by omega) (h5.trans hd) (by simp; omega)]
   simp
theorem qgi (c : Config) (ms : List Member) (l : List Nat) (hl : l.length < 2000) : ∀ (n s i : Nat), s < n → s < 1024 → l.drop i = (elim c n s).1 → z46 (s : Int) (l.map Int.ofNat) ((l.length : Nat) : Int) (i : Int) ms = some (((elim c n s).2 : Nat) : Int)
 | 0, s, i, h, _, _ => by omega
 | n + 1, s, i, h, hs, hdrop => by
  simp only [elim] at hdrop ⊢;apply y61;cases hu : q4g c s with
  | none =>
   rw [hu] at hdrop;simp only at hdrop ⊢;rw [q0j hdrop];rfl
  | some k =>
   rw [hu] at hdrop;simp only at hdrop ⊢;obtain ⟨h1, h2, h3⟩ := q4q hu;obtain ⟨h4, h5⟩ := qgp h1;have hlt := q0i hdrop;have h' : (l.map Int.ofNat).drop i = (k : Int) :: ((elim c n (s - 2 ^ k)).1).map Int.ofNat := by rw [← List.map_drop, hdrop]; rfl
   have hp : 2 ^ k ≤ s := Nat.ge_two_pow_of_testBit h1;rw [q03 (by omega), q08 h', q0q (by omega), shl1 (by omega) (by omega), Int.toNat_natCast, qc0 hp (by omega), q02 (by omega)]
   exact qgi c ms l hl n (s - 2 ^ k) (i + 1) (by omega) (by omega) (q04 hdrop)
theorem qoa {c : Config} {s : Nat} (hs : s < 1024) (hc : q0l c) : z5p c (s : Int) = some ((q21 c s : Nat) : Int) := by
 have hlt : s &&& decl c < 1024 := Nat.lt_of_le_of_lt Nat.and_le_left hs;have he : z4v c (s : Int) = some ((elim c 1024 (s &&& decl c)).1.map Int.ofNat) := by
  apply y4c;rw [q1f hs];simp only [Option.bind_some, Bool.not_true, cond_false, q3i c hc.1];rw [q3u (by omega) (by have := q81 c; omega), qpp hc 1024 _ [] hlt hlt (Sub.and_right _ _) (by simpa using hlt)]
  rfl
 apply y49;rw [q1f hs];simp only [Option.bind_some, Bool.not_true, cond_false, q3i c hc.1, he, List.length_map];rw [q3u (by omega) (by have := q81 c; omega)]
 have hlen := qr5 c 1024 (s &&& decl c) (by omega)
 exact qgi c c.Members _ (by omega) 1024 _ 0 hlt hlt rfl
end Go.Proofs.YtbmelgbadedbbaaGreat
