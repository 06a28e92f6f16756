/- The program's q1a quorum in a set. -/
import Derived.Test.YtfjcndlhpfbcgaaGreatZ16Pquor
namespace Go.Proofs.YtfjcndlhpfbcgaaGreat
open Go Go.Ab Go.Sort
theorem qrm {c : Config} {s : Nat} (hs : s < 1024) (hd : Sub s (decl c)) (hc : q13 c) (l : List Nat) (hl : l.length ≤ 10) : ∀ (suf : List Nat) (i : Nat), l.drop i = suf → (∀ k ∈ suf, s.testBit k = true) →
    z1n (s : Int) (l.map Int.ofNat) ((l.length : Nat) : Int) (i : Int) c.Members = some (match suf.find? (fun k => !sat s (tr c k)) with | some k => ((k : Int), true) | none => (0, false))
  | [], i, h, hm => by
    apply qkb
    rw [q0l h]; rfl
  | k :: suf, i, h, hm => by
    have hlt := q0k h
    obtain ⟨m, h1, h2, _⟩ := q8v (hd k (hm k (by simp)))
    have ih := qrm hs hd hc l hl suf (i + 1) (q08 h) (fun j hj => hm j (by simp [hj]))
    have hcon : z42 c (k : Int) (s : Int) = some (sat s (tr c k)) := by
      apply qys
      rw [q10 (by omega) (by simpa using h1), qbs hs m.Trust (hc.2 m (List.mem_of_getElem? h1)), h2]
      rfl
    apply qkb
    rw [q0e h]
    simp only [cond_true, q0d (q17 h)]
    rw [show Config.mk c.Members = c from rfl, hcon, q04 (by omega), ih, List.find?_cons]
    cases sat s (tr c k) <;> rfl
theorem qso {c : Config} {s : Nat} (hs : s < 1024) (hd : Sub s (decl c)) (hc : q13 c) : z3b c (s : Int) = some (match q4b c s with | some k => ((k : Int), true) | none => (0, false)) := by
  apply qzd
  rw [qjx hs]
  simp only [Option.bind_some, List.length_map]
  exact qrm hs hd hc (nodes s) (q6o s) (nodes s) 0 rfl fun k hk => (q2h.1 hk).1
theorem qtw {s k : Nat} (h : s.testBit k = true) : ndiff s (2 ^ k) = s - 2 ^ k := by
  apply Nat.eq_of_testBit_eq
  intro i
  rw [q0p, q5l h, qf4]
  by_cases hi : k = i
  · subst hi; simp
  · have : i ≠ k := fun e => hi e.symm
    simp [hi, this]
theorem qkx {c : Config} (hc : q13 c) : ∀ (n s : Nat) (acc : List Int), s < n → s < 1024 → Sub s (decl c) → acc.length + s < 1024 → ∃ l, z2k (s : Int) acc c.Members = some ((((elim c n s).2 : Nat) : Int), l)
  | 0, s, acc, h, _, _, _ => by omega
  | n + 1, s, acc, h, hs, hd, ha => by
    simp only [elim]
    cases hu : q4b c s with
    | none =>
      refine ⟨acc, ?_⟩
      apply qy5
      rw [show Config.mk c.Members = c from rfl, qso hs hd hc, hu]
      rfl
    | some k =>
      obtain ⟨h1, h2, _⟩ := q4l hu
      obtain ⟨q1, q2⟩ := qcu h1
      have hp := y0j h2
      obtain ⟨l, ih⟩ := qkx hc n (s - 2 ^ k) (acc ++ [(k : Int)]) (by omega) (by omega) (q2.trans hd) (by simp; omega)
      refine ⟨l, ?_⟩
      apply qy5
      rw [show Config.mk c.Members = c from rfl, qso hs hd hc, hu]
      simp only [Option.bind_some, Bool.not_true, cond_false]
      rw [q09 (by simp [q0g]; omega), q0m (by omega), shl1 (by omega) (by omega), Int.toNat_natCast, q2y (by omega) (by omega), qtw h1]
      exact ih
theorem q8j {c : Config} {s : Nat} (hs : s < 1024) (hc : q13 c) : z4h c (s : Int) = some ((q1a c s : Nat) : Int) := by
  have hd := q8m c
  have hlt : s &&& decl c < 1024 := y0s hs
  obtain ⟨l, h⟩ := qkx hc 1024 (s &&& decl c) [] hlt hlt (Sub.and_right _ _) (by simp; omega)
  have he : z56 c (s : Int) = some ((((elim c 1024 (s &&& decl c)).2 : Nat) : Int), l) := by
    apply y60
    rw [q5d, q48 hs]
    simp only [Option.bind_some, Bool.not_true, cond_false]
    rw [qdu c hc.1]
    simp only [Option.bind_some]
    rw [q2q (by omega) (by omega)]
    exact h
  apply y3a
  rw [he]
  rfl
end Go.Proofs.YtfjcndlhpfbcgaaGreat
