/- The program's quorums: all of them, the minimal ones. -/
import Derived.Test.YtfjcndlhpfbcgaaGreatZ16Cut
namespace Go.Proofs.YtfjcndlhpfbcgaaGreat
open Go Go.Ab Go.Sort
def quoB (c : Config) (s : Nat) : Bool := (s != 0) && (subB s (decl c) && (nodes s).all fun k => sat s (tr c k))
theorem q3y {c : Config} {s : Nat} (hs : s < 1024) : quoB c s = true ↔ q44 c s := by
  simp only [quoB, q44, Bool.and_eq_true, bne_iff_ne, q1t, List.all_eq_true]
  constructor
  · rintro ⟨h1, h2, h3⟩
    exact ⟨h1, h2, fun k hk => h3 k (q2h.2 ⟨hk, q3g hs hk⟩)⟩
  · rintro ⟨h1, h2, h3⟩
    exact ⟨h1, h2, fun k hk => h3 k (q2h.1 hk).1⟩
theorem qu8 {c : Config} {s : Nat} (hs : s < 1024) (hd : Sub s (decl c)) (hc : q13 c) (l : List Nat) (hl : l.length ≤ 10) : ∀ (suf : List Nat) (i : Nat), l.drop i = suf → (∀ k ∈ suf, s.testBit k = true) →
    ∃ k, z1n (s : Int) (l.map Int.ofNat) ((l.length : Nat) : Int) (i : Int) c.Members = some (k, !(suf.all fun k => sat s (tr c k)))
  | [], i, h, hm => by
    refine ⟨0, ?_⟩
    apply qkb
    rw [q0l h]; rfl
  | k :: suf, i, h, hm => by
    have hlt := q0k h
    obtain ⟨m, h1, h2, _⟩ := q8v (hd k (hm k (by simp)))
    obtain ⟨q, ih⟩ := qu8 hs hd hc l hl suf (i + 1) (q08 h) (fun j hj => hm j (by simp [hj]))
    have hcon : z42 c (k : Int) (s : Int) = some (sat s (tr c k)) := by
      apply qys
      rw [q10 (by omega) (by simpa using h1), qbs hs m.Trust (hc.2 m (List.mem_of_getElem? h1)), h2]
      rfl
    cases hsat : sat s (tr c k) with
    | true =>
      refine ⟨q, ?_⟩
      apply qkb
      rw [q0e h]
      simp only [cond_true, q0d (q17 h)]
      rw [show Config.mk c.Members = c from rfl, hcon, hsat, q04 (by omega), ih]
      simp [hsat]
    | false =>
      refine ⟨k, ?_⟩
      apply qkb
      rw [q0e h]
      simp only [cond_true, q0d (q17 h)]
      rw [show Config.mk c.Members = c from rfl, hcon, hsat]
      simp [hsat]
theorem qhr {c : Config} {s : Nat} (hs : s < 1024) (hc : q13 c) : z60 c (s : Int) = some (quoB c s) := by
  have hd := q8m c
  apply y4h
  rw [q5d, q48 hs, q69]
  simp only [Option.bind_some, Bool.not_true, cond_false, quoB]
  by_cases h0 : s = 0
  · subst h0; rfl
  · have hb0 : (s == 0) = false := by simp [h0]
    have hb1 : (s != 0) = true := by simp [h0]
    have h1 : z62 c (s : Int) = some (subB s (decl c)) := by
      apply y4k
      rw [qdu c hc.1]
      simp only [Option.bind_some]
      rw [q2y (by omega) (by omega), q69]; rfl
    rw [h1, hb0, hb1]
    simp only [Option.bind_some, cond_false, Bool.true_and]
    cases h2 : subB s (decl c) with
    | false => rfl
    | true =>
      obtain ⟨k, h3⟩ := qu8 hs (q1t.1 h2) hc (nodes s) (q6o s) (nodes s) 0 rfl fun k hk => (q2h.1 hk).1
      have h4 : z3b c (s : Int) = some (k, !((nodes s).all fun k => sat s (tr c k))) := by
        apply qzd
        rw [qjx hs]
        simp only [Option.bind_some, List.length_map]
        exact h3
      rw [h4]
      simp only [Bool.not_true, cond_false, Option.bind_some, Bool.not_not, Bool.true_and]
theorem q6l {c : Config} {s : Nat} (hs : s < 1024) (hc : q13 c) : z23 c (s : Int) = some (quoB c s) := by
  obtain ⟨r, h1, h2⟩ := qst hs hc
  rw [h1]
  congr 1
  rw [Bool.eq_iff_iff, h2, q3y hs]
theorem pow10 {n : Nat} (h : n ≤ 10) : 2 ^ n ≤ 1024 := Nat.pow_le_pow_right (n := 2) (by decide) h
theorem q4x (p : Nat → Bool) : ∀ (n X : Nat), X < n → p X = true → ∃ y, Sub y X ∧ p y = true ∧ ∀ z, Sub z y → p z = true → z = y
  | 0, X, h, _ => by omega
  | n + 1, X, h, hs => by
    by_cases hz : ∃ z, Sub z X ∧ p z = true ∧ z ≠ X
    · obtain ⟨z, h1, h2, h3⟩ := hz
      have := q3p h1
      obtain ⟨y, g1, g2, g3⟩ := q4x p n z (by omega) h2
      exact ⟨y, g1.trans h1, g2, g3⟩
    · refine ⟨X, Sub.refl _, hs, fun z h1 h2 => ?_⟩
      by_cases he : z = X
      · exact he
      · exact absurd ⟨z, h1, h2, he⟩ hz
theorem qxe {c : Config} {s : Nat} (h : q44 c s) : s < 1024 := h.2.1.lt (q8m c)
theorem q93 {c : Config} (_hn : c.Members.length ≤ 10) : decl c < 2 ^ c.Members.length := by
  refine Nat.lt_of_not_le fun hge => ?_
  obtain ⟨i, hi, hb⟩ := Nat.exists_ge_and_testBit_of_ge_two_pow hge
  obtain ⟨m, h1, _⟩ := q8v hb
  have := (List.getElem?_eq_some_iff.1 h1).1
  omega
theorem qr7 {c : Config} (hn : c.Members.length ≤ 10) {out : List Nat} (ho : LeastOf (pick (quoB c) (2 ^ c.Members.length)) out) {x : Nat} (hx : x < 1024) : (out.any fun y => subB y x) = (q1a c x != 0) := by
  rw [Bool.eq_iff_iff, List.any_eq_true, bne_iff_ne]
  constructor
  · rintro ⟨y, hy, hyx⟩ h0
    have hm := ((ho.2 y).1 hy).1
    have hq := (q0n.1 hm).2
    have hy10 : y < 1024 := by have := (q0n.1 hm).1; have := pow10 hn; omega
    have hQ := (q3y hy10).1 hq
    have := q64 c hx hQ (q1t.1 hyx)
    rw [h0] at this
    have := q3p this
    have := hQ.1
    omega
  · intro h0
    have hQ := q3z c hx h0
    have hsub := (q3s c hx).trans (Sub.and_left _ _)
    obtain ⟨y, g1, g2, g3⟩ := q4x (quoB c) _ _ (Nat.lt_succ_self _) ((q3y (qan c hx)).2 hQ)
    have hy10 := g1.lt (qan c hx)
    have hyQ := (q3y hy10).1 g2
    have hyn : y < 2 ^ c.Members.length := Nat.lt_of_le_of_lt (q3p hyQ.2.1) (q93 hn)
    exact ⟨y, (ho.2 y).2 ⟨q0n.2 ⟨hyn, g2⟩, fun t ht hty => g3 t hty (q0n.1 ht).2⟩, q1t.2 (g1.trans hsub)⟩
end Go.Proofs.YtfjcndlhpfbcgaaGreat
