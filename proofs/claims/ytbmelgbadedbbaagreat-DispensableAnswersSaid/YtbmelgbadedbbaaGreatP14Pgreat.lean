/- The program's q21 quorum in a set. -/
import Derived.Test.YtbmelgbadedbbaaGreatP14Pquor
namespace Go.Proofs.YtbmelgbadedbbaaGreat
open Go Go.Ab Go.Sort
theorem qtq {c : Config} {s : Nat} (hs : s < 1024) (hd : Sub s (decl c)) (hc : q0l c) (l : List Nat) (hl : l.length ≤ 10) : ∀ (suf : List Nat) (i : Nat), l.drop i = suf → (∀ k ∈ suf, s.testBit k = true) →
  z1g (s : Int) (l.map Int.ofNat) ((l.length : Nat) : Int) (i : Int) c.Members = some (match suf.find? (fun k => !sat s (tr c k)) with | some k => ((k : Int), true) | none => (0, false))
 | [], i, h, hm => by
  apply qmr;rw [q0j h]; rfl
 | k :: suf, i, h, hm => by
  have hlt := q0i h;obtain ⟨m, h1, h2, _⟩ := q4o (hd k (hm k (by simp)))
  have ih := qtq hs hd hc l hl suf (i + 1) (q04 h) (fun j hj => hm j (by simp [hj]))
  have hcon : z3v c (k : Int) (s : Int) = some (sat s (tr c k)) := by
   apply y0j;rw [q0v (by omega) (by simpa using h1), q3v hs m.Trust (hc.2 m (List.mem_of_getElem? h1)), h2]
   rfl
  apply qmr;rw [q0a h];simp only [cond_true, q08 (q2j h)];rw [show Config.mk c.Members = c from rfl, hcon, q02 (by omega), ih, List.find?_cons]
  cases sat s (tr c k) <;> rfl
theorem qu9 {c : Config} {s : Nat} (hs : s < 1024) (hd : Sub s (decl c)) (hc : q0l c) : z33 c (s : Int) = some (match q4g c s with | some k => ((k : Int), true) | none => (0, false)) := by
 apply qzm;rw [qgf hs];simp only [Option.bind_some, List.length_map];exact qtq hs hd hc (nodes s) (q74 s) (nodes s) 0 rfl fun k hk => (q2s.1 hk).1
theorem qup {s k : Nat} (h : s.testBit k = true) : ndiff s (2 ^ k) = s - 2 ^ k := by
 apply Nat.eq_of_testBit_eq;intro i;rw [q07, q5g h, qf6];by_cases hi : k = i
 ·subst hi; simp
 ·have : i ≠ k := fun e => hi e.symm
  simp [hi, this]
theorem qm1 {c : Config} (hc : q0l c) : ∀ (n s : Nat) (acc : List Int), s < n → s < 1024 → Sub s (decl c) → acc.length + s < 1024 → ∃ l, z2a (s : Int) acc c.Members = some ((((elim c n s).2 : Nat) : Int), l)
 | 0, s, acc, h, _, _, _ => by omega
 | n + 1, s, acc, h, hs, hd, ha => by
  simp only [elim];cases hu : q4g c s with
  | none =>
   refine ⟨acc, ?_⟩;apply y1j;rw [show Config.mk c.Members = c from rfl, qu9 hs hd hc, hu]
   rfl
  | some k =>
   obtain ⟨h1, h2, _⟩ := q4q hu;obtain ⟨q1, q2⟩ := qgp h1;have hp := y36 h2;obtain ⟨l, ih⟩ := qm1 hc n (s - 2 ^ k) (acc ++ [(k : Int)]) (by omega) (by omega) (q2.trans hd) (by simp; omega)
   refine ⟨l, ?_⟩;apply y1j;rw [show Config.mk c.Members = c from rfl, qu9 hs hd hc, hu]
   simp only [Option.bind_some, Bool.not_true, cond_false];rw [q06 (by simp [q0f]; omega), q0q (by omega), shl1 (by omega) (by omega), Int.toNat_natCast, q2y (by omega) (by omega), qup h1]
   exact ih
theorem qdf {c : Config} {s : Nat} (hs : s < 1024) (hc : q0l c) : z59 c (s : Int) = some ((q21 c s : Nat) : Int) := by
 have hd := q81 c;have hlt : s &&& decl c < 1024 := y22 hs;obtain ⟨l, h⟩ := qm1 hc 1024 (s &&& decl c) [] hlt hlt (Sub.and_right _ _) (by simp; omega)
 have he : z4u c (s : Int) = some ((((elim c 1024 (s &&& decl c)).2 : Nat) : Int), l) := by
  apply y73;rw [q5m, q8j hs];simp only [Option.bind_some, Bool.not_true, cond_false];rw [q62 c hc.1];simp only [Option.bind_some];rw [q3u (by omega) (by omega)]
  exact h
 apply y46;rw [he];rfl
end Go.Proofs.YtbmelgbadedbbaaGreat
