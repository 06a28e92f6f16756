/- The program's q1y quorum in a set. -/
import Derived.Test.YtbmelgbadedbbaaGreatP14Pquor
namespace Go.Proofs.YtbmelgbadedbbaaGreat
open Go Go.Ab Go.Sort
theorem qu0 {c : Config} {s : Nat} (hs : s < 1024) (hd : Sub s (decl c)) (hc : q0s c) (l : List Nat) (hl : l.length ≤ 10) : ∀ (suf : List Nat) (i : Nat), l.drop i = suf → (∀ k ∈ suf, s.testBit k = true) →
  z1g (s : Int) (l.map Int.ofNat) ((l.length : Nat) : Int) (i : Int) c.Members = some (match suf.find? (fun k => !sat s (tr c k)) with | some k => ((k : Int), true) | none => (0, false))
 | [], i, h, hm => by
  apply qm5;rw [q0j h]; rfl
 | k :: suf, i, h, hm => by
  have hlt := q0h h;obtain ⟨m, h1, h2, _⟩ := q4m (hd k (hm k (by simp)))
  have ih := qu0 hs hd hc l hl suf (i + 1) (q05 h) (fun j hj => hm j (by simp [hj]))
  have hcon : z3p c (k : Int) (s : Int) = some (sat s (tr c k)) := by
   apply y1m;rw [q0x (by omega) (by simpa using h1), q3s hs m.Trust (hc.2 m (List.mem_of_getElem? h1)), h2]
   rfl
  apply qm5;rw [q09 h];simp only [cond_true, q08 (q1n h)];rw [show Config.mk c.Members = c from rfl, hcon, q02 (by omega), ih, List.find?_cons]
  cases sat s (tr c k) <;> rfl
theorem qti {c : Config} {s : Nat} (hs : s < 1024) (hd : Sub s (decl c)) (hc : q0s c) : z32 c (s : Int) = some (match q49 c s with | some k => ((k : Int), true) | none => (0, false)) := by
 apply y0k;rw [qff hs];simp only [Option.bind_some, List.length_map];exact qu0 hs hd hc (nodes s) (q77 s) (nodes s) 0 rfl fun k hk => (q1p.1 hk).1
theorem qvq {s k : Nat} (h : s.testBit k = true) : ndiff s (2 ^ k) = s - 2 ^ k := by
 apply Nat.eq_of_testBit_eq;intro i;rw [q06, q5m h, qga];by_cases hi : k = i
 ·subst hi; simp
 ·have : i ≠ k := fun e => hi e.symm
  simp [hi, this]
theorem qlr {c : Config} (hc : q0s c) : ∀ (n s : Nat) (acc : List Int), s < n → s < 1024 → Sub s (decl c) → acc.length + s < 1024 → ∃ l, z2d (s : Int) acc c.Members = some ((((elim c n s).2 : Nat) : Int), l)
 | 0, s, acc, h, _, _, _ => by omega
 | n + 1, s, acc, h, hs, hd, ha => by
  simp only [elim];cases hu : q49 c s with
  | none =>
   refine ⟨acc, ?_⟩;apply qz1;rw [show Config.mk c.Members = c from rfl, qti hs hd hc, hu]
   rfl
  | some k =>
   obtain ⟨h1, h2, _⟩ := q4q hu;obtain ⟨q1, q2⟩ := qgi h1;have hp := y2q h2;obtain ⟨l, ih⟩ := qlr hc n (s - 2 ^ k) (acc ++ [(k : Int)]) (by omega) (by omega) (q2.trans hd) (by simp; omega)
   refine ⟨l, ?_⟩;apply qz1;rw [show Config.mk c.Members = c from rfl, qti hs hd hc, hu]
   simp only [Option.bind_some, Bool.not_true, cond_false];rw [q0e (by simp [q0i]; omega), q0n (by omega), shl1 (by omega) (by omega), Int.toNat_natCast, q2j (by omega) (by omega), qvq h1]
   exact ih
theorem qd2 {c : Config} {s : Nat} (hs : s < 1024) (hc : q0s c) : z4y c (s : Int) = some ((q1y c s : Nat) : Int) := by
 have hd := q6c c;have hlt : s &&& decl c < 1024 := y1n hs;obtain ⟨l, h⟩ := qlr hc 1024 (s &&& decl c) [] hlt hlt (Sub.and_right _ _) (by simp; omega)
 have he : z4j c (s : Int) = some ((((elim c 1024 (s &&& decl c)).2 : Nat) : Int), l) := by
  apply y4d;rw [q5i, q7q hs];simp only [Option.bind_some, Bool.not_true, cond_false];rw [q5z c hc.1];simp only [Option.bind_some];rw [q2o (by omega) (by omega)]
  exact h
 apply y6i;rw [he];rfl
end Go.Proofs.YtbmelgbadedbbaaGreat
