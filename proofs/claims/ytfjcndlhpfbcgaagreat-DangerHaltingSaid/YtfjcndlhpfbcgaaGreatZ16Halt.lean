/- DangerHalting: the law, on the machine. -/
import Derived.Test.YtfjcndlhpfbcgaaGreatZ16Law16
namespace Go.Proofs.YtfjcndlhpfbcgaaGreat
open Go Go.Ab Go.Sort
theorem qnm {c : Config} (hc : q13 c) (he : cerr c = 0) : ∃ out, z68 c = some (out.map Int.ofNat, 0) ∧ LeastOf (pick (quoB c) (2 ^ c.Members.length)) out := by
  have hn := (q1y.1 he).1
  have hp := pow10 hn
  obtain ⟨out, h1, h2⟩ := qc8 (pick (quoB c) (2 ^ c.Members.length)) (by have := q3m (quoB c) (2 ^ c.Members.length); omega) fun s hs => by have := (q0n.1 hs).1; omega
  refine ⟨out, ?_, h2⟩
  apply y5u
  rw [q52 hc, he]
  simp only [Option.bind_some, q0h, cond_false]
  rw [y1l hc hn]
  simp only [Option.bind_some]
  rw [h1]; rfl
theorem qr3 {c : Config} (hv : ValidC c) {out : List Nat} (ho : LeastOf (pick (quoB c) (2 ^ c.Members.length)) out) {s : Nat} (_hs : s < 2 ^ c.Members.length) : haltB c s = q5o out s := by
  have hp := pow10 hv.1
  have hlt : ndiff (2 ^ c.Members.length - 1) s < 1024 := q2k (by omega)
  have h1 := qr7 hv.1 ho hlt
  have h2 : haltB c s = !(q1a c (ndiff (2 ^ c.Members.length - 1) s) != 0) := by simp [haltB, bne]
  rw [h2, ← h1, q5o, List.not_any_eq_all_not, Bool.eq_iff_iff, List.all_eq_true, List.all_eq_true]
  have key : ∀ y ∈ out, (!subB y (ndiff (2 ^ c.Members.length - 1) s)) = (y &&& s != 0) := fun y hy => by
    have hy' := (q0n.1 ((ho.2 y).1 hy).1).1
    rw [Bool.eq_iff_iff, bne_iff_ne, Bool.not_eq_true']
    constructor
    · intro h e
      rw [← Bool.not_eq_true] at h
      apply h
      rw [q1t]
      intro i hi
      rw [q0p, q1c.1 hy' i hi]
      cases hsi : s.testBit i with
      | false => rfl
      | true =>
        have : (y &&& s).testBit i = true := by rw [Nat.testBit_and, hi, hsi]; rfl
        rw [e] at this; simp at this
    · intro h
      cases hb : subB y (ndiff (2 ^ c.Members.length - 1) s) with
      | false => rfl
      | true =>
        obtain ⟨i, hi⟩ := qel h
        rw [Nat.testBit_and, Bool.and_eq_true] at hi
        have := q1t.1 hb i hi.1
        rw [q0p, hi.2] at this
        simp at this
  constructor
  · intro h y hy; rw [← key y hy]; exact h y hy
  · intro h y hy; rw [key y hy]; exact h y hy
theorem qtg {c : Config} (hv : ValidC c) {s t : Nat} (hst : Sub s t) (h : haltB c s = true) : haltB c t = true := by
  have hp := pow10 hv.1
  have l1 : ndiff (2 ^ c.Members.length - 1) s < 1024 := q2k (by have := Nat.two_pow_pos c.Members.length; omega)
  have l2 : ndiff (2 ^ c.Members.length - 1) t < 1024 := q2k (by have := Nat.two_pow_pos c.Members.length; omega)
  simp only [haltB, beq_iff_eq] at h ⊢
  refine Classical.byContradiction fun h0 => ?_
  have hQ := q3z c l2 h0
  have hsub : Sub (q1a c (ndiff (2 ^ c.Members.length - 1) t)) (ndiff (2 ^ c.Members.length - 1) s) := fun i hi => by
    have h1 := (q3s c l2).trans (Sub.and_left _ _) i hi
    rw [q0p] at h1 ⊢
    cases h2 : s.testBit i with
    | false => simp_all
    | true => rw [hst i h2] at h1; simp at h1
  have := q64 c l1 hQ hsub
  rw [h] at this
  have := q3p this
  exact hQ.1 (by omega)
theorem qvf {c : Config} (hv : ValidC c) {out : List Nat} (ho : LeastOf (pick (haltB c) (2 ^ c.Members.length)) out) {x : Nat} (hx : x < 2 ^ c.Members.length) : haltB c x = out.any fun y => subB y x := by
  rw [Bool.eq_iff_iff, List.any_eq_true]
  constructor
  · intro h
    obtain ⟨y, g1, g2, g3⟩ := q4x (haltB c) _ x (Nat.lt_succ_self _) h
    refine ⟨y, (ho.2 y).2 ⟨q0n.2 ⟨by have := q3p g1; omega, g2⟩, fun t ht hty => g3 t hty (q0n.1 ht).2⟩, q1t.2 g1⟩
  · rintro ⟨y, hy, hyx⟩
    exact qtg hv (q1t.1 hyx) (q0n.1 ((ho.2 y).1 hy).1).2
section
variable {c : Config} (hv : ValidC c) {out : List Nat} (ho : LeastOf (pick (haltB c) (2 ^ c.Members.length)) out) (hlen : out.length ≤ 1024) {tl : List Int}
include hv ho hlen
theorem qsr {x : Nat} (hx : x < 2 ^ c.Members.length) {i ti : Int} (K : z1q (out.map Int.ofNat) (addI .i64 i 1) tl ti c.Members = some true) : ∀ (suf pre : List Nat), out = pre ++ suf → ∀ b, b = (pre.any fun y => subB y x) →
    z1s (out.map Int.ofNat) i (x : Int) b (out.map Int.ofNat) ((out.length : Nat) : Int) ((pre.length : Nat) : Int) tl ti c.Members = some true
  | [], pre, e, b, hb => by
    have hd := q4i e
    rw [List.append_nil] at e
    rw [← e, ← qvf hv ho hx] at hb
    apply qxz
    rw [q0l hd, show Config.mk c.Members = c from rfl, qlj hv.small, qis hv hx]
    simp only [cond_false, Option.bind_some, q0h]
    rw [hb, beq_self_eq_true]
    exact K
  | y :: suf, pre, e, b, hb => by
    have hd := q4i e
    have hlt := q0k hd
    have hp := pow10 hv.1
    have hy := (q0n.1 ((ho.2 y).1 (by rw [e]; simp)).1).1
    have ih := qsr hx K suf (pre ++ [y]) (by rw [e]; simp)
    rw [show (pre ++ [y]).length = pre.length + 1 by simp] at ih
    have hm : ((pre ++ [y]).any fun y => subB y x) = ((pre.any fun y => subB y x) || subB y x) := by simp
    apply qxz
    rw [q0e hd]
    simp only [cond_true, q0d (q17 hd)]
    rw [q04 (by omega)]
    cases b with
    | true =>
      simp only [cond_true]
      exact ih _ (by rw [hm, ← hb]; rfl)
    | false =>
      simp only [cond_false]
      rw [q2q (by omega) (by omega)]
      have heq : eqB (((x &&& y : Nat) : Int)) (y : Int) = subB y x := by
        rw [← qhy, Nat.and_comm]
        by_cases h : y &&& x = y
        · rw [h, q0t]; simp
        · rw [q0z (by omega)]; simp [h]
      rw [heq]
      exact ih _ (by rw [hm, ← hb]; rfl)
theorem qrx (hpos : 1 ≤ c.Members.length) : ∀ (m k : Nat) (ti : Int), k + m = 20 → q0v tl ti →
    z1q (out.map Int.ofNat) (k : Int) tl ti c.Members = some true
  | 0, k, ti, h, ht => by
    apply qyw
    rw [q02 (by omega), q5e]; rfl
  | m + 1, k, ti, h, ht => by
    have hn := hv.1
    have hp := pow10 hn
    have hp1 := Nat.two_pow_pos c.Members.length
    obtain ⟨v, j, g1, g2, g3, g4⟩ := N_ok (n := ((2 ^ c.Members.length : Nat) : Int)) (by omega) (by omega) ht
    obtain ⟨x, rfl⟩ := Int.eq_ofNat_of_zero_le g2
    have ih := qrx hpos m (k + 1) j (by omega) g4
    apply qyw
    rw [q05 (by omega), q0m (by omega), shl1 (by omega) (by omega), Int.toNat_natCast, g1]
    simp only [cond_true, Option.bind_some, List.length_map]
    exact qsr hv ho hlen (by omega) (by rw [q04 (by omega)]; exact ih) out [] rfl false rfl
end
theorem qmd (t : List Int) : law16_DangerHalting t = some true := by
  obtain ⟨tl, a1, a2⟩ := qts t
  obtain ⟨c, j, b1, b2, b3⟩ := qex (n := 8) (by decide) (by decide) a2
  have hv := b2.valid (by decide)
  have hp := pow10 hv.1
  obtain ⟨out, h1, h2⟩ := q7l hv
  obtain ⟨mins, m1, m2⟩ := qnm hv.small hv.cerr
  have hml : ∀ y ∈ mins, y < 2 ^ c.Members.length := fun y hy => (q0n.1 ((m2.2 y).1 hy).1).1
  obtain ⟨want, w1, w2⟩ := qqs (l := mins) (qct m2.1 fun s hs => by have := hml s hs; omega) hv.1 hml
  have hpick : pick (haltB c) (2 ^ c.Members.length) = pick (q5o mins) (2 ^ c.Members.length) := by
    unfold pick
    apply List.filter_congr
    intro s hs
    exact qr3 hv m2 (List.mem_range.1 hs)
  have he : out = want := LeastOf.unique h2 w2 fun s => by rw [hpick]
  subst he
  have hlen : out.length ≤ 1024 := qct h2.1 (h2.lt fun s hs => by have := (q0n.1 hs).1; omega)
  apply law16_DangerHalting_le
  rw [a1]
  simp only [Option.bind_some]
  rw [show (8 : Int) = ((8 : Nat) : Int) from rfl, b1]
  simp only [Option.bind_some]
  rw [h1]
  simp only [Option.bind_some]
  rw [m1]
  simp only [Option.bind_some]
  rw [w1]
  simp only [Option.bind_some, q0h, cond_false]
  rw [q6y (by simp; omega), decide_eq_true rfl]
  simp only [Option.bind_some, Bool.not_true, cond_false]
  exact qrx hv h2 hlen b2.pos 20 0 j rfl b3
end Go.Proofs.YtfjcndlhpfbcgaaGreat
