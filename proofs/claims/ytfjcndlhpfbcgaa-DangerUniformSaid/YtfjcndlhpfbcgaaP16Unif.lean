/- DangerUniform: the law, on the machine. -/
import Derived.Test.YtfjcndlhpfbcgaaP16Law16
namespace Go.Proofs.Ytfjcndlhpfbcgaa
open Go Go.Ab Go.Sort
theorem one_mod {a : Int} (ha : 0 ≤ a ∧ a < 256) {m : Nat} (hm : 1 ≤ m) (hm2 : m ≤ 10) : ∃ r : Nat, addI .i64 1 (remI .i64 (IntKind.wrap .i64 a) (m : Int)) = (r : Int) ∧ 1 ≤ r ∧ r ≤ m := by
  rw [wrap64 (by omega) (by omega), show remI .i64 a (m : Int) = a.tmod (m : Int) from rfl, Int.tmod_eq_emod_of_nonneg ha.1]
  have h1 := Int.emod_nonneg a (show (m : Int) ≠ 0 by omega)
  have h2 := Int.emod_lt_of_pos a (show (0 : Int) < (m : Int) by omega)
  rw [addI64 (by omega) (by omega)]
  exact ⟨(1 + a % (m : Int)).toNat, by omega, by omega, by omega⟩
section
variable {n k : Nat} (hn : n ≤ 7) (h1 : 1 ≤ k) (hk : k ≤ n) {l h : List Nat} (hl : l.Pairwise nlt) (hh : h.Pairwise nlt) (hlm : k < n → ∀ z, z ∈ l ↔ z ∈ pick (fun z => decide (pc z = 2 * k - n)) (2 ^ n)) (hln : k = n → l = []) (hhm : ∀ z, z ∈ h ↔ z ∈ pick (fun z => decide (pc z = n - k + 1)) (2 ^ n)) {ms : List Member}
include hn h1 hk hl hh hlm hln hhm
def cs (n k z : Nat) : Nat := if k < n then (pick (fun z => decide (pc z = 2 * k - n)) z).length else 0
def ch (n k z : Nat) : Nat := (pick (fun z => decide (pc z = n - k + 1)) z).length
omit hn h1 hk hl hh hlm hln hhm in
theorem cs_succ (n k z : Nat) : cs n k (z + 1) = cs n k z + (if k < n ∧ pc z = 2 * k - n then 1 else 0) := by
  unfold cs
  rw [pick_succ]
  by_cases h : k < n
  · by_cases h2 : pc z = 2 * k - n
    · simp [h, h2]
    · simp [h, h2]
  · simp [h]
omit hn h1 hk hl hh hlm hln hhm in
theorem ch_succ (n k z : Nat) : ch n k (z + 1) = ch n k z + (if pc z = n - k + 1 then 1 else 0) := by
  unfold ch
  rw [pick_succ]
  by_cases h2 : pc z = n - k + 1
  · simp [h2]
  · simp [h2]
omit hn h1 hk hl hh hlm hln hhm in
theorem ch_le (n k z : Nat) : ch n k z ≤ z := pick_len _ _
omit hn h1 hk hl hh hlm hln hhm in
theorem cs_le (n k z : Nat) : cs n k z ≤ z := by
  unfold cs
  split
  · exact pick_len _ _
  · omega
def dtol (n k : Nat) : Int := if k < n then ((2 * k - n : Nat) : Int) - 1 else (n : Int)
omit hn h1 hl hh hhm in
theorem dl_lt : ∀ z ∈ l, z < 2 ^ n ∧ pc z = 2 * k - n := fun z hz => by
  by_cases h : k < n
  · have := mem_pick.1 ((hlm h z).1 hz)
    exact ⟨this.1, by simpa using this.2⟩
  · rw [hln (by omega)] at hz; cases hz
theorem dunif_l3 : ∀ (suf : List Nat) (i : Nat), h.drop i = suf →
    z1q (n : Int) (k : Int) (l.map Int.ofNat) (h.map Int.ofNat) (dtol n k) ((cs n k (2 ^ n) : Nat) : Int) ((ch n k (2 ^ n) : Nat) : Int) ((2 * k - n : Nat) : Int) (h.map Int.ofNat) ((h.length : Nat) : Int) (i : Int) ms = some true
  | [], i, e => by
    have hhl : h.length = ch n k (2 ^ n) := card_len hh hhm
    apply z1q_le
    rw [ltB_end e, List.length_map, List.length_map, hhl, eqB_self, dawake_true]
    simp only [cond_false]
    by_cases hkn : k = n
    · rw [hkn, eqB_self, hln hkn]
      simp only [cond_true, List.length_nil]
      rw [show eqB ((0 : Nat) : Int) 0 = true from rfl, show dtol n n = (n : Int) by simp [dtol], eqB_self]
      rfl
    · have hkn' : k < n := by omega
      have hll : l.length = cs n k (2 ^ n) := by rw [card_len hl (hlm hkn')]; simp [cs, hkn']
      rw [eqB_ne (by omega), hll, eqB_self]
      simp only [cond_false, cond_true]
      rw [show dtol n k = ((2 * k - n : Nat) : Int) - 1 by simp [dtol, hkn'], subI64 (by omega) (by omega), eqB_self]
      rfl
  | z :: suf, i, e => by
    have hlt := lt_drop e
    have hp : 2 ^ n ≤ 1024 := pow10 (by omega)
    have hz := mem_pick.1 ((hhm z).1 (List.mem_of_mem_drop (by rw [e]; exact List.mem_cons_self)))
    have hpz : pc z = n - k + 1 := by simpa using hz.2
    have hhl : h.length ≤ 2 ^ n := by rw [card_len hh hhm]; exact pick_len _ _
    have ih := dunif_l3 suf (i + 1) (drop_next e)
    apply z1q_le
    rw [ltB_drop e]
    simp only [cond_true, nth_drop (map_drop_cons e)]
    rw [rsize_ok (by omega), hpz]
    simp only [Option.bind_some]
    rw [subI_nat hk (by omega), next_nat (show n - k < 4611686018427387904 by omega), neB_self, next_nat (show i < 4611686018427387904 by omega)]
    exact ih
theorem dunif_l2 : ∀ (suf : List Nat) (i : Nat), l.drop i = suf →
    z1p (n : Int) (k : Int) (l.map Int.ofNat) (h.map Int.ofNat) (dtol n k) ((cs n k (2 ^ n) : Nat) : Int) ((ch n k (2 ^ n) : Nat) : Int) ((2 * k - n : Nat) : Int) (l.map Int.ofNat) ((l.length : Nat) : Int) (i : Int) ms = some true
  | [], i, e => by
    apply z1p_le
    rw [ltB_end e]
    simp only [cond_false, List.length_map]
    exact dunif_l3 hn h1 hk hl hh hlm hln hhm h 0 rfl
  | z :: suf, i, e => by
    have hlt := lt_drop e
    have hp : 2 ^ n ≤ 1024 := pow10 (by omega)
    obtain ⟨hz, hpz⟩ := dl_lt hk hlm hln z (List.mem_of_mem_drop (by rw [e]; exact List.mem_cons_self))
    have hll : l.length ≤ 1024 := ord_len hl fun s hs => by have := (dl_lt hk hlm hln s hs).1; omega
    have ih := dunif_l2 suf (i + 1) (drop_next e)
    apply z1p_le
    rw [ltB_drop e]
    simp only [cond_true, nth_drop (map_drop_cons e)]
    rw [rsize_ok (by omega), hpz]
    simp only [Option.bind_some]
    rw [neB_self, next_nat (show i < 4611686018427387904 by omega)]
    exact ih
theorem dunif_l1 : ∀ (j z : Nat), z + j = 2 ^ n →
    z17 (n : Int) (k : Int) (l.map Int.ofNat) (h.map Int.ofNat) (dtol n k) ((cs n k z : Nat) : Int) ((ch n k z : Nat) : Int) ((2 * k - n : Nat) : Int) (z : Int) ms = some true
  | 0, z, e => by
    have : z = 2 ^ n := by omega
    subst this
    apply z17_le
    rw [chk_true (by omega), shl1 (by omega) (by omega), Int.toNat_natCast, ltB_false (by omega)]
    simp only [cond_false, List.length_map]
    exact dunif_l2 hn h1 hk hl hh hlm hln hhm l 0 rfl
  | j + 1, z, e => by
    have hp : 2 ^ n ≤ 1024 := pow10 (by omega)
    have ih := dunif_l1 j (z + 1) (by omega)
    have c1 := cs_le n k z
    have c2 := ch_le n k z
    rw [cs_succ, ch_succ] at ih
    apply z17_le
    rw [chk_true (by omega), shl1 (by omega) (by omega), Int.toNat_natCast, ltB_true (by omega), rsize_ok (by omega)]
    simp only [cond_true, Option.bind_some]
    rw [subI_nat hk (by omega), next_nat (show n - k < 4611686018427387904 by omega), next_nat (show z < 4611686018427387904 by omega), next_nat (show cs n k z < 4611686018427387904 by omega), next_nat (show ch n k z < 4611686018427387904 by omega)]
    by_cases e1 : pc z = 2 * k - n
    · rw [e1, eqB_self]
      simp only [cond_true]
      by_cases e2 : k < n
      · rw [ltB_true (by omega)]
        simp only [cond_true]
        rw [if_pos ⟨e2, e1⟩] at ih
        by_cases e3 : 2 * k - n = n - k + 1
        · rw [e3, eqB_self]
          rw [if_pos (by omega)] at ih
          rw [e3] at ih
          exact ih
        · rw [eqB_ne (by omega)]
          rw [if_neg (by omega)] at ih
          exact ih
      · rw [ltB_false (by omega)]
        simp only [cond_false]
        rw [if_neg (fun q => e2 q.1)] at ih
        by_cases e3 : 2 * k - n = n - k + 1
        · rw [e3, eqB_self]
          rw [if_pos (by omega)] at ih
          rw [e3] at ih
          exact ih
        · rw [eqB_ne (by omega)]
          rw [if_neg (by omega)] at ih
          exact ih
    · rw [eqB_ne (by omega)]
      simp only [cond_false]
      rw [if_neg (fun q => e1 q.2)] at ih
      by_cases e3 : pc z = n - k + 1
      · rw [e3, eqB_self]
        rw [if_pos e3] at ih
        exact ih
      · rw [eqB_ne (by omega)]
        rw [if_neg e3] at ih
        exact ih
end
theorem tolr_card {n m : Nat} {l : List Nat} (hne : l ≠ []) (h : ∀ z ∈ l, pc z = m) : tolr n l = ((m : Nat) : Int) - 1 := by
  cases l with
  | nil => exact absurd rfl hne
  | cons a r => simp [tolr, h a (by simp)]
theorem card_ne {n m : Nat} (hn : n ≤ 10) (hm : m ≤ n) {l : List Nat} (h : ∀ z, z ∈ l ↔ z ∈ pick (fun z => decide (pc z = m)) (2 ^ n)) : l ≠ [] := by
  have hp := pow10 hn
  have hp1 := Nat.two_pow_pos n
  obtain ⟨a, h1, h2⟩ := part_of (u := 2 ^ n - 1) (by omega) (n - m) m (by rw [pc_full _ hn]; omega)
  intro e
  have := (h a).2 (mem_pick.2 ⟨nat_sub.2 h1, by simpa using h2⟩)
  rw [e] at this; cases this
theorem uniform_law (a b : Int) (ha : 0 ≤ a ∧ a < 256) (hb : 0 ≤ b ∧ b < 256) : law16_DangerUniform a b = some true := by
  apply law16_DangerUniform_le
  obtain ⟨n, e1, n1, n2⟩ := one_mod ha (m := 7) (by decide) (by decide)
  rw [show ((7 : Nat) : Int) = 7 from rfl] at e1
  rw [e1]
  obtain ⟨k, e2, k1, k2⟩ := one_mod hb n1 (show n ≤ 10 by omega)
  rw [e2, chk_true (by omega), dsame_ok n1 (show n ≤ 10 by omega)]
  simp only [Option.bind_some]
  have hn : n ≤ 10 := by omega
  have hv := flat_conf hn k1 k2
  have hlen := uni_len n (flat n k)
  obtain ⟨l, l1, l2⟩ := pSplitting_ok hv (by rw [hlen]; omega)
  obtain ⟨h, m1, m2⟩ := pHalting_ok hv
  have t := pTolerates_ok hv (by rw [hlen]; omega) l2 m2
  rw [hlen] at l2 m2 t
  have hlm : k < n → ∀ z, z ∈ l ↔ z ∈ pick (fun z => decide (pc z = 2 * k - n)) (2 ^ n) := fun hk => flat_splits hn hk l2 k1
  have hln : k = n → l = [] := fun hk => by subst hk; exact flat_nosplit hn l2
  have hhm := flat_halts hn k1 k2 m2
  have ht1 : tolr n l = dtol n k := by
    by_cases hk : k < n
    · rw [tolr_card (card_ne hn (by omega) (hlm hk)) fun z hz => by simpa using (mem_pick.1 ((hlm hk z).1 hz)).2]
      simp [dtol, hk]
    · rw [hln (by omega)]; simp [tolr, dtol, hk]
  have ht2 : tolr n h = ((n - k : Nat) : Int) := by
    rw [tolr_card (card_ne hn (by omega) hhm) fun z hz => by simpa using (mem_pick.1 ((hhm z).1 hz)).2]
    omega
  rw [l1]
  simp only [Option.bind_some]
  rw [m1]
  simp only [Option.bind_some]
  rw [t, ht1, ht2]
  simp only [Option.bind_some, neB_self, cond_false]
  have hm : (if subI .i64 (mulI .i64 2 (k : Int)) (n : Int) > 0 then subI .i64 (mulI .i64 2 (k : Int)) (n : Int) else 0) = ((2 * k - n : Nat) : Int) := by
    have : mulI .i64 2 (k : Int) = 2 * (k : Int) := wrap64 (by omega) (by omega)
    rw [this, subI64 (by omega) (by omega)]
    split <;> omega
  rw [hm, subI_nat k2 (by omega), neB_self]
  simp only [cond_false]
  have := dunif_l1 (n := n) (k := k) (by omega) k1 k2 l2.1 m2.1 hlm hln hhm (ms := (uni n (flat n k)).Members) (2 ^ n) 0 (by omega)
  simpa [cs, ch, pick] using this
end Go.Proofs.Ytfjcndlhpfbcgaa
