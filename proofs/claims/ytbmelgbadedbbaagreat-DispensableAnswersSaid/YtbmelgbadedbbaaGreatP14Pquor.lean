/- The program's quorums: all of them, the minimal ones. -/
import Derived.Test.YtbmelgbadedbbaaGreatP14Cut
namespace Go.Proofs.YtbmelgbadedbbaaGreat
open Go Go.Ab Go.Sort
def quoB (c : Config) (s : Nat) : Bool := (s != 0) && (subB s (decl c) && (nodes s).all fun k => sat s (tr c k))
theorem qbn {c : Config} {s : Nat} (hs : s < 1024) : quoB c s = true ↔ q23 c s := by
 simp only [quoB, q23, Bool.and_eq_true, bne_iff_ne, q5v, List.all_eq_true];constructor
 ·rintro ⟨h1, h2, h3⟩;exact ⟨h1, h2, fun k hk => h3 k (q2s.2 ⟨hk, q5p hs hk⟩)⟩
 ·rintro ⟨h1, h2, h3⟩;exact ⟨h1, h2, fun k hk => h3 k (q2s.1 hk).1⟩
theorem qtg {c : Config} {s : Nat} (hs : s < 1024) (hd : Sub s (decl c)) (hc : q0l c) (l : List Nat) (hl : l.length ≤ 10) : ∀ (suf : List Nat) (i : Nat), l.drop i = suf → (∀ k ∈ suf, s.testBit k = true) →
  ∃ k, z1g (s : Int) (l.map Int.ofNat) ((l.length : Nat) : Int) (i : Int) c.Members = some (k, !(suf.all fun k => sat s (tr c k)))
 | [], i, h, hm => by
  refine ⟨0, ?_⟩;apply qmr;rw [q0j h]; rfl
 | k :: suf, i, h, hm => by
  have hlt := q0i h;obtain ⟨m, h1, h2, _⟩ := q4o (hd k (hm k (by simp)))
  obtain ⟨q, ih⟩ := qtg hs hd hc l hl suf (i + 1) (q04 h) (fun j hj => hm j (by simp [hj]))
  have hcon : z3v c (k : Int) (s : Int) = some (sat s (tr c k)) := by
   apply y0j;rw [q0v (by omega) (by simpa using h1), q3v hs m.Trust (hc.2 m (List.mem_of_getElem? h1)), h2]
   rfl
  cases hsat : sat s (tr c k) with
  | true =>
   refine ⟨q, ?_⟩;apply qmr;rw [q0a h];simp only [cond_true, q08 (q2j h)];rw [show Config.mk c.Members = c from rfl, hcon, hsat, q02 (by omega), ih]
   simp [hsat]
  | false =>
   refine ⟨k, ?_⟩;apply qmr;rw [q0a h];simp only [cond_true, q08 (q2j h)];rw [show Config.mk c.Members = c from rfl, hcon, hsat]
   simp [hsat]
theorem qa6 {c : Config} {s : Nat} (hs : s < 1024) (hc : q0l c) : z2g c (s : Int) = some (quoB c s) := by
 have hd := q81 c;apply qzc;rw [q5m, q8j hs, q5n];simp only [Option.bind_some, Bool.not_true, cond_false, quoB];by_cases h0 : s = 0
 ·subst h0; rfl
 ·have hb0 : (s == 0) = false := by simp [h0]
  have hb1 : (s != 0) = true := by simp [h0]
  have h1 : z5j c (s : Int) = some (subB s (decl c)) := by
   apply y5f;rw [q62 c hc.1];simp only [Option.bind_some];rw [q2y (by omega) (by omega), q5n]; rfl
  rw [h1, hb0, hb1];simp only [Option.bind_some, cond_false, Bool.true_and];cases h2 : subB s (decl c) with
  | false => rfl
  | true =>
   obtain ⟨k, h3⟩ := qtg hs (q5v.1 h2) hc (nodes s) (q74 s) (nodes s) 0 rfl fun k hk => (q2s.1 hk).1
   have h4 : z33 c (s : Int) = some (k, !((nodes s).all fun k => sat s (tr c k))) := by
    apply qzm;rw [qgf hs];simp only [Option.bind_some, List.length_map];exact h3
   rw [h4];simp only [Bool.not_true, cond_false, Option.bind_some, Bool.not_not, Bool.true_and]
theorem qcs {c : Config} {s : Nat} (hs : s < 1024) (hc : q0l c) : z22 c (s : Int) = some (quoB c s) := by
 obtain ⟨r, h1, h2⟩ := qvl hs hc;rw [h1];congr 1
 rw [Bool.eq_iff_iff, h2, qbn hs]
theorem pow10 {n : Nat} (h : n ≤ 10) : 2 ^ n ≤ 1024 := Nat.pow_le_pow_right (n := 2) (by decide) h
theorem qr3 {c : Config} {s : Nat} (h : q23 c s) : s < 1024 := h.2.1.lt (q81 c)
theorem q8l {c : Config} (_hn : c.Members.length ≤ 10) : decl c < 2 ^ c.Members.length := by
 refine Nat.lt_of_not_le fun hge => ?_
 obtain ⟨i, hi, hb⟩ := Nat.exists_ge_and_testBit_of_ge_two_pow hge;obtain ⟨m, h1, _⟩ := q4o hb;have := (List.getElem?_eq_some_iff.1 h1).1;omega
end Go.Proofs.YtbmelgbadedbbaaGreat
