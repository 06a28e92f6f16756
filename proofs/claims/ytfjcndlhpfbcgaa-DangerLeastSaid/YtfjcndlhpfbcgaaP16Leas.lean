/- DangerLeast: the law, on the machine. -/
import Derived.Test.YtfjcndlhpfbcgaaP16Law16
namespace Go.Proofs.Ytfjcndlhpfbcgaa
open Go Go.Ab Go.Sort
theorem din_l1 (l : List Nat) (hl : l.length ≤ 1024) (x : Nat) : ∀ (suf : List Nat) (i : Nat), l.drop i = suf →
    mk_In_l1 (x : Int) (l.map Int.ofNat) ((l.length : Nat) : Int) (i : Int) = some (decide (x ∈ suf))
  | [], i, h => by
    apply mk_In_l1_le
    rw [ltB_end h]; simp
  | y :: suf, i, h => by
    have hlt := lt_drop h
    have ih := din_l1 l hl x suf (i + 1) (drop_next h)
    apply mk_In_l1_le
    rw [ltB_drop h]
    simp only [cond_true, nth_drop (map_drop_cons h)]
    by_cases hxy : x = y
    · subst hxy; rw [eqB_self]; simp
    · rw [eqB_ne (by omega), next_nat (by omega), ih]
      simp [hxy]
theorem din_ok (l : List Nat) (hl : l.length ≤ 1024) (x : Nat) : mk_In (l.map Int.ofNat) (x : Int) = some (decide (x ∈ l)) := by
  apply mk_In_le
  rw [List.length_map]
  exact din_l1 l hl x l 0 rfl
section
variable {c : Config} (hv : ValidC c) {out : List Nat} (ho : LeastOf (pick (splitB c) (2 ^ c.Members.length)) out) (hlen : out.length ≤ 1024) {tl : List Int} {ti : Int}
include hv ho hlen
theorem dlea_l2 {x : Nat} (hx : x < 2 ^ c.Members.length) (K : law16_DangerLeast_l1 ((2 ^ c.Members.length - 1 : Nat) : Int) (out.map Int.ofNat) ((x + 1 : Nat) : Int) tl ti c.Members = some true) : ∀ (suf pre : List Nat), out = pre ++ suf → ∀ b, b = (pre.any fun y => (y != x) && subB y x) →
    law16_DangerLeast_l2 ((2 ^ c.Members.length - 1 : Nat) : Int) (out.map Int.ofNat) (x : Int) (splitB c x) 0 b (out.map Int.ofNat) ((out.length : Nat) : Int) ((pre.length : Nat) : Int) tl ti c.Members = some true
  | [], pre, e, b, hb => by
    have hd := drop_pre e
    have hp := pow10 hv.1
    rw [List.append_nil] at e
    rw [← e] at hb
    have hin : decide (x ∈ out) = (splitB c x && !b) := by
      rw [Bool.eq_iff_iff, decide_eq_true_eq, ho.2, Bool.and_eq_true, Bool.not_eq_true']
      constructor
      · rintro ⟨h1, h2⟩
        refine ⟨(mem_pick.1 h1).2, ?_⟩
        rw [hb]
        cases hany : out.any fun y => (y != x) && subB y x with
        | false => rfl
        | true =>
          obtain ⟨y, hy, hyx⟩ := List.any_eq_true.1 hany
          simp only [Bool.and_eq_true, bne_iff_ne, subB_iff] at hyx
          exact absurd (h2 y ((ho.2 y).1 hy).1 hyx.2) hyx.1
      · rintro ⟨h1, h2⟩
        obtain ⟨y, g1, g2, g3⟩ := exists_leastP (splitB c) _ x (Nat.lt_succ_self _) h1
        have hyo : y ∈ out := (ho.2 y).2 ⟨mem_pick.2 ⟨by have := sub_le g1; omega, g2⟩, fun t ht hty => g3 t hty (mem_pick.1 ht).2⟩
        have hyx : y = x := Classical.byContradiction fun hne => by
          rw [hb] at h2
          have : (out.any fun y => (y != x) && subB y x) = true := List.any_eq_true.2 ⟨y, hyo, by simp [hne, subB_iff.2 g1]⟩
          rw [this] at h2; cases h2
        rw [← hyx]; exact (ho.2 y).1 hyo
    apply law16_DangerLeast_l2_le
    rw [ltB_end hd]
    simp only [cond_false]
    rw [din_ok out hlen x, hin, next_nat (by omega), K]
    cases splitB c x <;> cases b <;> rfl
  | y :: suf, pre, e, b, hb => by
    have hd := drop_pre e
    have hlt := lt_drop hd
    have hp := pow10 hv.1
    have hy := (mem_pick.1 ((ho.2 y).1 (by rw [e]; simp)).1).1
    have ih := dlea_l2 hx K suf (pre ++ [y]) (by rw [e]; simp)
    rw [show (pre ++ [y]).length = pre.length + 1 by simp] at ih
    have hm : ((pre ++ [y]).any fun y => (y != x) && subB y x) = ((pre.any fun y => (y != x) && subB y x) || ((y != x) && subB y x)) := by simp
    apply law16_DangerLeast_l2_le
    rw [ltB_drop hd]
    simp only [cond_true, nth_drop (map_drop_cons hd)]
    rw [next_nat (by omega)]
    cases b with
    | true =>
      simp only [cond_true]
      exact ih _ (by rw [hm, ← hb]; rfl)
    | false =>
      simp only [cond_false]
      by_cases hyx : y = x
      · subst hyx
        rw [neB_self]
        exact ih _ (by rw [hm, ← hb]; simp)
      · rw [neB_ne (by omega), andI_nat (by omega) (by omega)]
        simp only [cond_true]
        have heq : eqB (((x &&& y : Nat) : Int)) (y : Int) = subB y x := by
          rw [← and_eq_sub, Nat.and_comm]
          by_cases h : y &&& x = y
          · rw [h, eqB_self]; simp
          · rw [eqB_ne (by omega)]; simp [h]
        rw [heq]
        exact ih _ (by rw [hm, ← hb]; simp [hyx])
theorem dlea_l1 : ∀ (k x : Nat), x + k = 2 ^ c.Members.length →
    law16_DangerLeast_l1 ((2 ^ c.Members.length - 1 : Nat) : Int) (out.map Int.ofNat) (x : Int) tl ti c.Members = some true
  | 0, x, h => by
    have hp1 := Nat.two_pow_pos c.Members.length
    apply law16_DangerLeast_l1_le
    rw [leB_false (by omega), dawake_true]; rfl
  | k + 1, x, h => by
    have ih := dlea_l1 k (x + 1) (by omega)
    apply law16_DangerLeast_l1_le
    rw [leB_true (by omega), show Config.mk c.Members = c from rfl, pSplits_ok hv.small, splR_nat hv (by omega)]
    simp only [cond_true, Option.bind_some, List.length_map]
    exact dlea_l2 hv ho hlen (by omega) ih out [] rfl false rfl
end
theorem least_law (t : List Int) : law16_DangerLeast t = some true := by
  obtain ⟨tl, a1, a2⟩ := New_ok t
  obtain ⟨c, j, b1, b2, b3⟩ := Config_ok (n := 6) (by decide) (by decide) a2
  have hv := b2.valid (by decide)
  have hle := b2.le
  have hp := pow10 hv.1
  obtain ⟨out, h1, h2⟩ := pSplitting_ok hv (by omega)
  have hlen : out.length ≤ 1024 := ord_len h2.1 (h2.lt fun s hs => by have := (mem_pick.1 hs).1; omega)
  apply law16_DangerLeast_le
  rw [a1]
  simp only [Option.bind_some]
  rw [show (6 : Int) = ((6 : Nat) : Int) from rfl, b1]
  simp only [Option.bind_some]
  rw [chk_true (by omega), members_int hv.1, h1]
  simp only [Option.bind_some, neB_self, cond_false]
  exact dlea_l1 hv h2 hlen (2 ^ c.Members.length) 0 (by omega)
end Go.Proofs.Ytfjcndlhpfbcgaa
