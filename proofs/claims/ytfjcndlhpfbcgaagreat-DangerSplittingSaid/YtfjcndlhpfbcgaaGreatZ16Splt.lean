/- DangerSplitting: the law, on the machine. -/
import Derived.Test.YtfjcndlhpfbcgaaGreatZ16Law16
namespace Go.Proofs.YtfjcndlhpfbcgaaGreat
open Go Go.Ab Go.Sort
theorem y1h {d : Config} : twoB d = (List.range (2 ^ d.Members.length)).any (aptB d) := by
  rw [Bool.eq_iff_iff, List.any_eq_true]
  unfold twoB apart
  constructor
  · intro h
    cases hf : (q2j (2 ^ d.Members.length - 1)).find? (aptB d) with
    | none => rw [hf] at h; simp [aptR] at h
    | some s => exact ⟨s, List.mem_range.2 (q1c.2 (q15.1 (List.mem_of_find?_eq_some hf))), List.find?_some hf⟩
  · rintro ⟨s, hs, ha⟩
    cases hf : (q2j (2 ^ d.Members.length - 1)).find? (aptB d) with
    | none => exact absurd ha (List.find?_eq_none.1 hf s (q15.2 (q1c.1 (List.mem_range.1 hs))))
    | some s' =>
      have := List.find?_some hf
      simp only [aptB, quoB, Bool.and_eq_true] at this
      simpa [aptR] using this.1.1
theorem qo0 {c d : Config} {n : Nat} (hn : n ≤ 10) (hdl : d.Members.length = n) (hdc : q13 d) {x a b : Nat} {yes : Bool} {f : Int} {tl : List Int} {ti : Int} (hx : x < 1024) (ha : a < 1024) (hb : b < 1024)
    (hyes : yes = twoB d) (hf : yes = true → f = 0 ∧ a &&& b = 0 ∧ (a ||| b) &&& x = 0 ∧ quoB d a = true ∧ quoB d b = true) (hf2 : yes = false → f = 11) :
    ∀ (k y : Nat), y + k = 2 ^ n → ∀ s, s = (List.range y).any (aptB d) →
    z1g (x : Int) yes 0 (a : Int) (b : Int) f ((2 ^ n - 1 : Nat) : Int) s (y : Int) tl ti c.Members d.Members = some true
  | 0, y, h, s, hs => by
    have hp := pow10 hn
    have hp1 := Nat.two_pow_pos n
    have : y = 2 ^ n := by omega
    subst this
    rw [← hdl, ← y1h, ← hyes] at hs
    subst hs
    apply qyi
    rw [q0a (by omega)]
    simp only [cond_false, q0h, beq_self_eq_true, Bool.not_true, cond_false]
    cases hy : s with
    | true =>
      obtain ⟨f1, f2, f3, f4, f5⟩ := hf hy
      rw [f1, q0t, q2q (by omega) (by omega), f2, q4q (by omega) (by omega), q2q (by have := or_lt ha hb; omega) (by omega), f3]
      rw [show Config.mk d.Members = d from rfl, q6l ha hdc, q6l hb hdc, f4, f5, q5e]
      rfl
    | false =>
      rw [hf2 hy, q5e]
      rfl
  | k + 1, y, h, s, hs => by
    have hp := pow10 hn
    have hy : y < 2 ^ n := by omega
    have hd : ndiff (2 ^ n - 1) y = 2 ^ n - 1 - y := qcn hy
    have hlt : ndiff (2 ^ n - 1) y < 1024 := q2k (by omega)
    have ih := qo0 (c := c) (tl := tl) (ti := ti) hn hdl hdc hx ha hb hyes hf hf2 k (y + 1) (by omega)
    have hm : (List.range (y + 1)).any (aptB d) = ((List.range y).any (aptB d) || aptB d y) := by simp [List.range_succ]
    apply qyi
    rw [q0f (by omega)]
    simp only [cond_true]
    rw [q04 (by omega)]
    cases s with
    | true => exact ih true (by rw [hm, ← hs]; rfl)
    | false =>
      simp only [cond_false]
      rw [show Config.mk d.Members = d from rfl, q6l (by omega) hdc]
      simp only [Option.bind_some]
      cases hq : quoB d y with
      | false => exact ih false (by rw [hm, ← hs]; simp [aptB, hq])
      | true =>
        simp only [cond_true]
        rw [q7q (by omega) (by omega), ← hd, qb0 hlt hdc]
        simp only [Option.bind_some, qgl]
        exact ih _ (by rw [hm, ← hs]; simp only [aptB, hq, hdl]; rfl)
theorem qix (t : List Int) : law16_DangerSplitting t = some true := by
  obtain ⟨tl, a1, a2⟩ := qts t
  obtain ⟨c, j, b1, b2, b3⟩ := qex (n := 6) (by decide) (by decide) a2
  have hv := b2.valid (by decide)
  have hp := pow10 hv.1
  obtain ⟨x, j2, x1, x2, x3⟩ := qzx b2 (by decide) b3
  have hx : x < 1024 := by omega
  have hdv := q35 x hv
  have hdl := qja x c
  have hask : askE c (x : Int) = 0 := qiu hv x2
  have spec := apart_spec (c := delC x c) hdv.1
  have hal : (apart (delC x c)).1 < 1024 ∧ (apart (delC x c)).2 < 1024 := by
    rcases spec with ⟨h1, h2, _⟩ | ⟨h1, h2, _⟩
    · exact ⟨by omega, by omega⟩
    · exact ⟨qxe h1, qxe h2⟩
  apply law16_DangerSplitting_le
  rw [a1]
  simp only [Option.bind_some]
  rw [show (6 : Int) = ((6 : Nat) : Int) from rfl, b1]
  simp only [Option.bind_some]
  rw [x1]
  simp only [Option.bind_some]
  rw [qh5 hv.small, qp3 hv x2]
  simp only [Option.bind_some]
  rw [qph hv.small]
  simp only [Option.bind_some]
  rw [q7s hx c hv.bears]
  simp only [Option.bind_some]
  rw [q0m (by omega), q32 hv.1]
  have hpr : paiR c (x : Int) = disjR (delC x c) := by unfold paiR; rw [if_pos hask]; rfl
  rw [hpr]
  have h0 : (false : Bool) = (List.range 1).any (aptB (delC x c)) := by simp [aptB, quoB]
  have hp1 := Nat.two_pow_pos c.Members.length
  unfold disjR q2l
  cases hy : twoB (delC x c) with
  | true =>
    simp only [if_true]
    have htwo := hy
    simp only [twoB, bne_iff_ne] at htwo
    rcases spec with ⟨h1, _, _⟩ | ⟨h1, h2, h3, _⟩
    · exact absurd h1 htwo
    · refine qo0 hv.1 hdl hdv.small hx hal.1 hal.2 hy.symm (fun _ => ⟨rfl, h3, ?_, (q3y hal.1).2 h1, (q3y hal.2).2 h2⟩) (fun h => by cases h) (2 ^ c.Members.length - 1) 1 (by omega) false h0
      apply Nat.eq_of_testBit_eq
      intro i
      rw [Nat.testBit_and, Nat.zero_testBit]
      cases hi : ((apart (delC x c)).1 ||| (apart (delC x c)).2).testBit i with
      | false => rfl
      | true =>
        have := (Sub.or h1.2.1 h2.2.1) i hi
        rw [(q2g.1 this).2]; rfl
  | false =>
    simp only [Bool.false_eq_true, if_false]
    exact qo0 (a := 0) (b := 0) hv.1 hdl hdv.small hx (by decide) (by decide) hy.symm (fun h => by cases h) (fun _ => rfl) (2 ^ c.Members.length - 1) 1 (by omega) false h0
end Go.Proofs.YtfjcndlhpfbcgaaGreat
