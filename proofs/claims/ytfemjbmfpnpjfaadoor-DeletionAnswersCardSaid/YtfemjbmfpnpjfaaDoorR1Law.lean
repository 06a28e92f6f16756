/- The two laws of one drawn trust, on the machine. -/
import Derived.Test.YtfemjbmfpnpjfaaDoorR1Del
namespace Go.Proofs.YtfemjbmfpnpjfaaDoor
open Go Go.Ab

theorem pow_lt {n : Int} (h0 : 0 ≤ n) (h1 : n ≤ 10) : (2 ^ n.toNat : Nat) ≤ 1024 := by
  have : n.toNat ≤ 10 := by omega
  exact Nat.pow_le_pow_right (n := 2) (by decide) this
theorem N_pow {n : Int} {l : List Int} {i : Int} (h0 : 1 ≤ n) (h1 : n ≤ 10) (h : TapeOk l i) :
    ∃ (v : Nat) (j : Int), mk_Tape_N (shlI .i64 1 n) l i = some (((v : Nat) : Int), l, j) ∧ v < 1024 ∧ TapeOk l j := by
  have hp := pow_lt (show 0 ≤ n by omega) h1
  have hp0 := Nat.two_pow_pos n.toNat
  rw [shl1 (show 0 ≤ n by omega) (by omega)]
  obtain ⟨v, j, g1, g2, g3, g4⟩ := N_ok (n := ((2 ^ n.toNat : Nat) : Int)) (by omega) (by omega) h
  obtain ⟨w, rfl⟩ := Int.eq_ofNat_of_zero_le g2
  exact ⟨w, j, g1, by omega, g4⟩

theorem has_bit {k : Int} (h : inR k = true) (z : Nat) : has (z ||| bit k) k = true := by rw [has_or h]; simp
theorem sat_one {z : Nat} {k : Int} (h : has z k = true) : sat z ⟨1, [k], []⟩ = true := by
  simp [sat_eq, cnt, sats, h]
theorem ndiff_union {z g : Nat} : ndiff z g ||| g = z ||| g := by
  apply Nat.eq_of_testBit_eq
  intro i
  simp only [Nat.testBit_or, testBit_ndiff]
  cases z.testBit i <;> cases g.testBit i <;> rfl
theorem ndiff_and (a b : Nat) : ndiff a b &&& b = 0 := by
  apply Nat.eq_of_testBit_eq
  intro i
  simp only [Nat.testBit_and, testBit_ndiff, Nat.zero_testBit]
  cases a.testBit i <;> cases b.testBit i <;> rfl

theorem del_facts {x : Trust} (hx : valid x = true) {k : Int} (hk : inR k = true) {z g : Nat} (hzk : has z k = true) (hkg : bit k &&& g = 0) :
    ∃ y, (if (less g x).Threshold = 0 then (⟨1, [k], []⟩ : Trust) else less g x) = y ∧ valid y = true ∧ sat z y = sat (z ||| g) x ∧ uses y &&& g = 0 := by
  by_cases h0 : (less g x).Threshold = 0
  · refine ⟨_, rfl, ?_⟩
    rw [if_pos h0]
    refine ⟨valid_one hk, ?_, ?_⟩
    · rw [sat_one hzk, zero_sat h0]
    · simp [uses, usesN, usesL, hk, hkg]
  · refine ⟨_, rfl, ?_⟩
    rw [if_neg h0]
    exact ⟨less_valid g x hx h0, sat_less g z x, uses_less g x⟩
theorem cnt_mono {s z : Nat} (h : ∀ k, has s k = true → has z k = true) (l : List Int) : cnt s l ≤ cnt z l := List.countP_mono_left (fun k _ hk => h k hk)
theorem sat_mono {s z : Nat} (h : ∀ k, has s k = true → has z k = true) : ∀ t : Trust, sat s t = true → sat z t = true := by
  apply Trust.ind
  intro t ih hs
  have hin : ∀ l : List Trust, (∀ x ∈ l, sat s x = true → sat z x = true) → sats s l ≤ sats z l := by
    intro l
    induction l with
    | nil => intro _; exact Nat.le_refl _
    | cons y r ihr =>
      intro h'
      have h1 := ihr (fun x hx => h' x (by simp [hx]))
      have h2 := h' y (by simp)
      simp only [sats]
      cases hy : sat s y with
      | true => simp only [h2 hy, if_true]; omega
      | false => simp only [Bool.false_eq_true, if_false]; omega
  rw [sat_eq, decide_eq_true_eq] at hs ⊢
  have := hin t.Inner ih
  have := cnt_mono h t.Nodes
  omega

theorem means_l1 {n : Int} (h1 : 1 ≤ n) (h2 : n ≤ 10) {l : List Int} {x : Trust} (hx : valid x = true) (haw : law13_awake = some true) : ∀ (m : Nat) (c : Nat) (i : Int), c + m = 20 → TapeOk l i →
    law13_DeletionMeans_l1 n (c : Int) l i x.Threshold x.Nodes x.Inner = some true
  | 0, c, i, hc, h => by
    apply law13_DeletionMeans_l1_le
    simp only [ltB_false (show (20 : Int) ≤ (c : Int) by omega), cond_false, haw, Option.bind_some]
  | m + 1, c, i, hc, h => by
    obtain ⟨hf, hw⟩ := valid_fits hx
    obtain ⟨g0, j1, a1, a2, a3⟩ := N_pow h1 h2 h
    obtain ⟨k, j2, a4, a5, a6, a7⟩ := N_ok (n := n) (by omega) (by omega) a3
    obtain ⟨z0, j3, a8, a9, a10⟩ := N_pow h1 h2 a7
    have hk : inR k = true := by simp only [inR, Bool.and_eq_true, decide_eq_true_eq]; omega
    have hb := bit_lt hk
    have hg : ndiff g0 (bit k) < 1024 := ndiff_lt (n := 10) a2
    have hz1 : ndiff z0 (ndiff g0 (bit k)) < 1024 := ndiff_lt (n := 10) a9
    have hz2 : ndiff z0 (ndiff g0 (bit k)) ||| bit k < 1024 := Nat.or_lt_two_pow (n := 10) hz1 hb
    have hz3 : (ndiff z0 (ndiff g0 (bit k)) ||| bit k) ||| ndiff g0 (bit k) < 1024 := Nat.or_lt_two_pow (n := 10) hz2 hg
    have ih := means_l1 h1 h2 hx haw m (c + 1) j3 (by omega) a10
    apply law13_DeletionMeans_l1_le
    rw [ltB_true (show (c : Int) < 20 by omega), next_nat (show c < 4611686018427387904 by omega)]
    simp only [cond_true, chk_true (show 0 ≤ n by omega), a1, Option.bind_some]
    rw [a4]
    simp only [Option.bind_some, chk_true a5, shl_bit hk, Trust.eta]
    rw [andNotI_nat (show g0 < 2 ^ 62 by omega) (show bit k < 2 ^ 62 by omega), del_ok hg x hf hw k, a8]
    simp only [Option.bind_some]
    rw [andNotI_nat (show z0 < 2 ^ 62 by omega) (show ndiff g0 (bit k) < 2 ^ 62 by omega), orI_nat (show ndiff z0 (ndiff g0 (bit k)) < 2 ^ 62 by omega) (show bit k < 2 ^ 62 by omega),
      orI_nat (show ndiff z0 (ndiff g0 (bit k)) ||| bit k < 2 ^ 62 by omega) (show ndiff g0 (bit k) < 2 ^ 62 by omega), satisfied_ok hz3 x hf.small]
    have hzk : has (ndiff z0 (ndiff g0 (bit k)) ||| bit k) k = true := has_bit hk _
    have hkg : bit k &&& ndiff g0 (bit k) = 0 := by rw [Nat.and_comm]; exact ndiff_and _ _
    generalize ndiff g0 (bit k) = g at *
    generalize ndiff z0 g ||| bit k = z at *
    obtain ⟨y, hy, y1, y2, y3⟩ := del_facts hx hk hzk hkg
    rw [hy]
    have hys := (valid_fits y1).1.small
    obtain ⟨e, e1, e2⟩ := valid_ok y hys
    have he : e = 0 := e2.2 y1
    subst he
    rw [satisfied_ok hz2 y hys, e1, uses_ok y hys]
    simp only [Option.bind_some, y2, beq_self_eq_true, Bool.not_true, cond_false, neB_self]
    rw [andI_nat (show uses y < 2 ^ 62 by have := uses_lt y; omega) (show g < 2 ^ 62 by omega), y3]
    simp only [Int.natCast_zero, neB_self, cond_false]
    exact ih

theorem grows_l1 {n : Int} (h1 : 1 ≤ n) (h2 : n ≤ 10) {l : List Int} {x : Trust} (hx : valid x = true) (haw : law13_awake = some true) : ∀ (m : Nat) (c : Nat) (i : Int), c + m = 20 → TapeOk l i →
    law13_DeletionGrows_l1 n (c : Int) l i x.Threshold x.Nodes x.Inner = some true
  | 0, c, i, hc, h => by
    apply law13_DeletionGrows_l1_le
    simp only [ltB_false (show (20 : Int) ≤ (c : Int) by omega), cond_false, haw, Option.bind_some]
  | m + 1, c, i, hc, h => by
    obtain ⟨hf, hw⟩ := valid_fits hx
    obtain ⟨g0, j1, a1, a2, a3⟩ := N_pow h1 h2 h
    obtain ⟨k, j2, a4, a5, a6, a7⟩ := N_ok (n := n) (by omega) (by omega) a3
    obtain ⟨z0, j3, a8, a9, a10⟩ := N_pow h1 h2 a7
    have hk : inR k = true := by simp only [inR, Bool.and_eq_true, decide_eq_true_eq]; omega
    have hb := bit_lt hk
    have hg : ndiff g0 (bit k) < 1024 := ndiff_lt (n := 10) a2
    have hz1 : z0 ||| bit k < 1024 := Nat.or_lt_two_pow (n := 10) a9 hb
    have hz2 : ndiff (z0 ||| bit k) (ndiff g0 (bit k)) < 1024 := ndiff_lt (n := 10) hz1
    have ih := grows_l1 h1 h2 hx haw m (c + 1) j3 (by omega) a10
    apply law13_DeletionGrows_l1_le
    rw [ltB_true (show (c : Int) < 20 by omega), next_nat (show c < 4611686018427387904 by omega)]
    simp only [cond_true, chk_true (show 0 ≤ n by omega), a1, Option.bind_some]
    rw [a4]
    simp only [Option.bind_some, chk_true a5, shl_bit hk, Trust.eta]
    rw [andNotI_nat (show g0 < 2 ^ 62 by omega) (show bit k < 2 ^ 62 by omega), del_ok hg x hf hw k, a8]
    simp only [Option.bind_some]
    rw [orI_nat (show z0 < 2 ^ 62 by omega) (show bit k < 2 ^ 62 by omega), satisfied_ok hz1 x hf.small, andNotI_nat (show z0 ||| bit k < 2 ^ 62 by omega) (show ndiff g0 (bit k) < 2 ^ 62 by omega)]
    simp only [Option.bind_some]
    have hkg : bit k &&& ndiff g0 (bit k) = 0 := by rw [Nat.and_comm]; exact ndiff_and _ _
    have hgk : has (ndiff g0 (bit k)) k = false := by simp [has, testBit_ndiff, bit, Nat.testBit_two_pow]
    have hzk : has (ndiff (z0 ||| bit k) (ndiff g0 (bit k))) k = true := by
      have h3 := has_bit hk z0
      simp only [has, testBit_ndiff, Bool.and_eq_true, Bool.not_eq_true'] at h3 hgk ⊢
      refine ⟨h3.1, h3.2.1, h3.2.2, ?_⟩
      simpa [h3.1, h3.2.1] using hgk
    cases hs : sat (z0 ||| bit k) x with
    | false => simp only [cond_false]; exact ih
    | true =>
      generalize ndiff g0 (bit k) = g at *
      obtain ⟨y, hy, y1, y2, y3⟩ := del_facts hx hk hzk hkg
      rw [hy]
      have hys := (valid_fits y1).1.small
      rw [satisfied_ok hz2 y hys]
      have : sat (ndiff (z0 ||| bit k) g) y = true := by
        rw [y2, ndiff_union]
        exact sat_mono (fun q hq => by rw [has_union, hq]; rfl) x hs
      simp only [cond_true, Option.bind_some, this, Bool.not_true, cond_false]
      exact ih

theorem grows_law (haw : law13_awake = some true) (t : List Int) : law13_DeletionGrows t = some true := by
  obtain ⟨l, a1, a2⟩ := New_ok t
  obtain ⟨n, j, b1, b2, b3, b4⟩ := Range_ok (a := 1) (b := 10) (by decide) (by decide) (by decide) a2
  obtain ⟨x, j2, c1, c2, c3, c4⟩ := Trust_ok b2 b3 3 (by decide) b4
  apply law13_DeletionGrows_le
  rw [a1]
  simp only [Option.bind_some]
  rw [b1]
  simp only [Option.bind_some]
  rw [show (4 : Int) = ((3 + 1 : Nat) : Int) from rfl, c1]
  simp only [Option.bind_some]
  exact grows_l1 b2 b3 c2.1 haw 20 0 j2 rfl c4
theorem means_law (haw : law13_awake = some true) (t : List Int) : law13_DeletionMeans t = some true := by
  obtain ⟨l, a1, a2⟩ := New_ok t
  obtain ⟨n, j, b1, b2, b3, b4⟩ := Range_ok (a := 1) (b := 10) (by decide) (by decide) (by decide) a2
  obtain ⟨x, j2, c1, c2, c3, c4⟩ := Trust_ok b2 b3 3 (by decide) b4
  apply law13_DeletionMeans_le
  rw [a1]
  simp only [Option.bind_some]
  rw [b1]
  simp only [Option.bind_some]
  rw [show (4 : Int) = ((3 + 1 : Nat) : Int) from rfl, c1]
  simp only [Option.bind_some]
  exact means_l1 b2 b3 c2.1 haw 20 0 j2 rfl c4
end Go.Proofs.YtfemjbmfpnpjfaaDoor
