/- Danger where all trust in so many of the first nodes: it depends on the number of nodes alone. -/
import Derived.Test.YtfjcndlhpfbcgaaP16Danger
namespace Go.Proofs.Ytfjcndlhpfbcgaa
open Go Go.Ab Go.Sort
theorem pc_add_aux {a b u : Nat} (h : ∀ i, u.testBit i = (a.testBit i || b.testBit i)) (hd : ∀ i, a.testBit i = true → b.testBit i = false) : ∀ m i, (nodesFrom u m i).length = (nodesFrom a m i).length + (nodesFrom b m i).length
  | 0, i => rfl
  | m + 1, i => by
    rw [pc_succ_aux, pc_succ_aux a, pc_succ_aux b, pc_add_aux h hd m (i + 1), h]
    have := hd i
    cases h1 : a.testBit i <;> cases h2 : b.testBit i <;> simp_all <;> omega
theorem pc_or {a b : Nat} (hd : ∀ i, a.testBit i = true → b.testBit i = false) : pc (a ||| b) = pc a + pc b := pc_add_aux (fun _i => Nat.testBit_or ..) hd 10 0
theorem pc_ndiff {u a : Nat} (h : Sub a u) : pc (ndiff u a) + pc a = pc u := by
  refine (pc_add_aux (a := ndiff u a) (b := a) (u := u) (fun i => ?_) (fun i hi => ?_) 10 0).symm
  · rw [testBit_ndiff]
    have := h i
    cases h1 : u.testBit i <;> cases h2 : a.testBit i <;> simp_all
  · rw [testBit_ndiff] at hi
    cases h2 : a.testBit i with
    | false => rfl
    | true => simp [h2] at hi
theorem pc_zero : pc 0 = 0 := by decide
theorem pc_pow {i : Nat} (h : i < 10) : pc (2 ^ i) = 1 := by
  have : ∀ i, i < 10 → pc (2 ^ i) = 1 := by decide
  exact this i h
theorem ndiff_self_sub (u a : Nat) : Sub (ndiff u a) u := fun i hi => by
  rw [testBit_ndiff] at hi
  cases h : u.testBit i with
  | true => rfl
  | false => simp [h] at hi
theorem part_of {u : Nat} (hu : u < 1024) : ∀ (d j : Nat), j + d = pc u → ∃ a, Sub a u ∧ pc a = j
  | 0, j, h => ⟨u, Sub.refl _, by omega⟩
  | d + 1, j, h => by
    obtain ⟨a, h1, h2⟩ := part_of hu d (j + 1) (by omega)
    have h0 : a ≠ 0 := fun e => by subst e; rw [pc_zero] at h2; omega
    obtain ⟨i, hi⟩ := bne_zero h0
    have hi10 := bit_lt_of hu (h1 i hi)
    have := pc_ndiff (Sub.pow hi)
    rw [pc_pow hi10] at this
    exact ⟨ndiff a (2 ^ i), (ndiff_self_sub _ _).trans h1, by omega⟩
theorem pc_le_of {n u : Nat} (hn : n ≤ 10) (h : u < 2 ^ n) : pc u ≤ n := by
  have := pc_mono (nat_sub.1 h)
  rwa [pc_full _ hn] at this
theorem least_card {n m : Nat} (hn : n ≤ 10) {p : Nat → Bool} {q : Nat → Bool} (hp : ∀ z, z < 2 ^ n → p z = q (pc z)) (hq : q m = true) (hno : ∀ j, j < m → q j = false) {out : List Nat} (ho : LeastOf (pick p (2 ^ n)) out) (z : Nat) : z ∈ out ↔ z ∈ pick (fun z => decide (pc z = m)) (2 ^ n) := by
  have hp10 := pow10 hn
  rw [ho.2, mem_pick, decide_eq_true_eq]
  constructor
  · rintro ⟨hm, hmin⟩
    obtain ⟨hz, hs⟩ := mem_pick.1 hm
    rw [hp z hz] at hs
    refine ⟨hz, ?_⟩
    have hge : m ≤ pc z := Nat.le_of_not_lt fun hlt => by rw [hno _ hlt] at hs; cases hs
    obtain ⟨a, h1, h2⟩ := part_of (u := z) (by omega) (pc z - m) m (by omega)
    have ha : a < 2 ^ n := Nat.lt_of_le_of_lt (sub_le h1) hz
    have := hmin a (mem_pick.2 ⟨ha, by rw [hp a ha, h2]; exact hq⟩) h1
    rw [← this]; exact h2
  · rintro ⟨hz, hk⟩
    refine ⟨mem_pick.2 ⟨hz, by rw [hp z hz, hk]; exact hq⟩, fun t ht hts => ?_⟩
    obtain ⟨ht1, ht2⟩ := mem_pick.1 ht
    rw [hp t ht1] at ht2
    have hge : m ≤ pc t := Nat.le_of_not_lt fun hlt => by rw [hno _ hlt] at ht2; cases ht2
    have := pc_mono hts
    exact pc_eq_of_sub (by omega) (by omega) hts (by omega)
theorem least_none {n : Nat} {p : Nat → Bool} (hp : ∀ z, z < 2 ^ n → p z = false) {out : List Nat} (ho : LeastOf (pick p (2 ^ n)) out) : out = [] := by
  cases h : out with
  | nil => rfl
  | cons a r =>
    have := (ho.2 a).1 (by rw [h]; simp)
    obtain ⟨h1, h2⟩ := mem_pick.1 this.1
    rw [hp a h1] at h2; cases h2
theorem card_len {n m : Nat} {out : List Nat} (ho : out.Pairwise nlt) (h : ∀ z, z ∈ out ↔ z ∈ pick (fun z => decide (pc z = m)) (2 ^ n)) : out.length = (pick (fun z => decide (pc z = m)) (2 ^ n)).length := by
  apply List.Perm.length_eq
  have hnd : (pick (fun z => decide (pc z = m)) (2 ^ n)).Nodup := List.Pairwise.sublist List.filter_sublist List.nodup_range
  rw [List.perm_ext_iff_of_nodup (nodup_of_ord ho) hnd]
  exact h
theorem flat_conf {n k : Nat} (hn : n ≤ 10) (h1 : 1 ≤ k) (hk : k ≤ n) : ValidC (uni n (flat n k)) := cerr_zero.1 (uni_valid hn (flat_valid hn h1 hk) (uses_below _ (flat_below n k)))
theorem flat_halt {n k : Nat} (hn : n ≤ 10) (h1 : 1 ≤ k) (hk : k ≤ n) {s : Nat} (hs : s < 2 ^ n) : haltB (uni n (flat n k)) s = decide (n < pc s + k) := by
  have hp := pow10 hn
  have hg := valid_good (flat_valid hn h1 hk)
  have hlt : ndiff (2 ^ n - 1) s < 1024 := ndiff_lt' (by omega)
  have hlt2 : ndiff (2 ^ n - 1) s < 2 ^ n := nat_sub.2 (ndiff_self_sub _ _)
  have hpc := pc_ndiff (nat_sub.1 hs)
  rw [pc_full _ hn] at hpc
  unfold haltB
  rw [uni_len]
  by_cases h : n < pc s + k
  · rw [decide_eq_true h, beq_iff_eq]
    refine Classical.byContradiction fun h0 => ?_
    have hQ := greatest_quorum _ hlt h0
    have hsub := (greatest_sub (uni n (flat n k)) hlt).trans (Sub.and_left _ _)
    have hgl : greatest (uni n (flat n k)) (ndiff (2 ^ n - 1) s) < 2 ^ n := Nat.lt_of_le_of_lt (sub_le hsub) hlt2
    have := (quoB_iff (by omega)).2 hQ
    rw [uni_quo hn hg hgl, flat_sat hn hgl, decide_eq_true_eq] at this
    have := pc_mono hsub
    omega
  · rw [decide_eq_false h, beq_eq_false_iff_ne]
    intro h0
    have hQ : Quorum (uni n (flat n k)) (ndiff (2 ^ n - 1) s) := (quoB_iff hlt).1 (by rw [uni_quo hn hg hlt2, flat_sat hn hlt2, decide_eq_true_eq]; omega)
    have := greatest_max _ hlt hQ (Sub.refl _)
    rw [h0] at this
    have := sub_le this
    exact hQ.1 (by omega)
theorem flat_del_quo {n k : Nat} (hn : n ≤ 10) {s y : Nat} (hs : s < 2 ^ n) (hy : y < 2 ^ n) (hd : ∀ i, y.testBit i = true → s.testBit i = false) : Quorum (delC s (uni n (flat n k))) y ↔ y ≠ 0 ∧ k ≤ pc y + pc s := by
  have hp := pow10 hn
  rw [quorum_del (by omega) hd, uni_decl hn]
  have hys : y ||| s < 2 ^ n := Nat.or_lt_two_pow hy hs
  constructor
  · rintro ⟨h0, _, h2⟩
    refine ⟨h0, ?_⟩
    obtain ⟨i, hi⟩ := bne_zero h0
    have hin : i < n := by
      have := nat_sub.1 hy i hi
      rwa [Nat.testBit_two_pow_sub_one, decide_eq_true_eq] at this
    have := h2 i hi
    rw [uni_tr hin, flat_sat hn hys, decide_eq_true_eq, pc_or hd] at this
    exact this
  · rintro ⟨h0, h2⟩
    refine ⟨h0, nat_sub.1 hy, fun i hi => ?_⟩
    have hin : i < n := by
      have := nat_sub.1 hy i hi
      rwa [Nat.testBit_two_pow_sub_one, decide_eq_true_eq] at this
    rw [uni_tr hin, flat_sat hn hys, decide_eq_true_eq, pc_or hd]
    exact h2
def splQ (n k j : Nat) : Bool := decide (j < k ∧ 2 * k ≤ n + j ∨ k ≤ j ∧ j + 2 ≤ n)
theorem flat_split {n k : Nat} (hn : n ≤ 10) {s : Nat} (hs : s < 2 ^ n) : splitB (uni n (flat n k)) s = splQ n k (pc s) := by
  have hp := pow10 hn
  have hpc := pc_ndiff (nat_sub.1 hs)
  rw [pc_full _ hn] at hpc
  have hlt2 : ndiff (2 ^ n - 1) s < 2 ^ n := nat_sub.2 (ndiff_self_sub _ _)
  have hdis : ∀ a, Sub a (ndiff (2 ^ n - 1) s) → ∀ i, a.testBit i = true → s.testBit i = false := fun a ha i hi => by
    have := ha i hi
    rw [testBit_ndiff] at this
    cases h : s.testBit i with
    | false => rfl
    | true => simp [h] at this
  rw [Bool.eq_iff_iff]
  unfold splitB splQ
  rw [twoB_iff (by rw [delC_len, uni_len]; exact hn), decide_eq_true_eq]
  have hpos : ∀ a, a < 1024 → a ≠ 0 → 1 ≤ pc a := fun a ha h0 => by
    refine Nat.one_le_iff_ne_zero.2 fun h1 => h0 ?_
    have : (0 : Nat) = a := pc_eq_of_sub (by decide) ha (fun i hi => by simp at hi) (by rw [pc_zero, h1])
    exact this.symm
  constructor
  · rintro ⟨a, b, ha, hb, hab⟩
    have hsa : Sub a (ndiff (2 ^ n - 1) s) := by have := ha.2.1; rwa [decl_del, uni_decl hn] at this
    have hsb : Sub b (ndiff (2 ^ n - 1) s) := by have := hb.2.1; rwa [decl_del, uni_decl hn] at this
    have hla : a < 2 ^ n := Nat.lt_of_le_of_lt (sub_le hsa) hlt2
    have hlb : b < 2 ^ n := Nat.lt_of_le_of_lt (sub_le hsb) hlt2
    obtain ⟨a0, a1⟩ := (flat_del_quo hn hs hla (hdis a hsa)).1 ha
    obtain ⟨b0, b1⟩ := (flat_del_quo hn hs hlb (hdis b hsb)).1 hb
    have hd : ∀ i, a.testBit i = true → b.testBit i = false := fun i hi => by
      cases hbi : b.testBit i with
      | false => rfl
      | true =>
        have : (a &&& b).testBit i = true := by rw [Nat.testBit_and, hi, hbi]; rfl
        rw [hab] at this; simp at this
    have h1 := pc_mono (Sub.or hsa hsb)
    rw [pc_or hd] at h1
    have := hpos a (by omega) a0
    have := hpos b (by omega) b0
    omega
  · intro h
    have hj : ∃ j, 1 ≤ j ∧ k ≤ j + pc s ∧ 2 * j ≤ n - pc s := by
      by_cases hk : pc s < k
      · exact ⟨k - pc s, by omega, by omega, by omega⟩
      · exact ⟨1, by omega, by omega, by omega⟩
    obtain ⟨j, j1, j2, j3⟩ := hj
    obtain ⟨a, ha, hpa⟩ := part_of (u := ndiff (2 ^ n - 1) s) (by omega) (pc (ndiff (2 ^ n - 1) s) - j) j (by omega)
    have hb := ndiff_self_sub (ndiff (2 ^ n - 1) s) a
    have hpb := pc_ndiff ha
    have hla : a < 2 ^ n := Nat.lt_of_le_of_lt (sub_le ha) hlt2
    have hlb : ndiff (ndiff (2 ^ n - 1) s) a < 2 ^ n := Nat.lt_of_le_of_lt (sub_le hb) hlt2
    refine ⟨a, ndiff (ndiff (2 ^ n - 1) s) a, (flat_del_quo hn hs hla (hdis a ha)).2 ⟨?_, by omega⟩, (flat_del_quo hn hs hlb (hdis _ hb)).2 ⟨?_, by omega⟩, ?_⟩
    · rintro rfl; rw [pc_zero] at hpa; omega
    · intro h0; rw [h0, pc_zero] at hpb; omega
    · apply Nat.eq_of_testBit_eq
      intro i
      rw [Nat.testBit_and, testBit_ndiff, Nat.zero_testBit]
      cases a.testBit i <;> simp
theorem flat_halts {n k : Nat} (hn : n ≤ 10) (h1 : 1 ≤ k) (hk : k ≤ n) {out : List Nat} (ho : LeastOf (pick (haltB (uni n (flat n k))) (2 ^ n)) out) (z : Nat) : z ∈ out ↔ z ∈ pick (fun z => decide (pc z = n - k + 1)) (2 ^ n) :=
  least_card hn (q := fun j => decide (n < j + k)) (fun z hz => flat_halt hn h1 hk hz) (by simp; omega) (fun j hj => by simp; omega) ho z
theorem flat_splits {n k : Nat} (hn : n ≤ 10) (hk : k < n) {out : List Nat} (ho : LeastOf (pick (splitB (uni n (flat n k))) (2 ^ n)) out) (h1 : 1 ≤ k) (z : Nat) : z ∈ out ↔ z ∈ pick (fun z => decide (pc z = 2 * k - n)) (2 ^ n) :=
  least_card hn (q := splQ n k) (fun z hz => flat_split hn hz) (by simp [splQ]; omega) (fun j hj => by simp [splQ]; omega) ho z
theorem flat_nosplit {n : Nat} (hn : n ≤ 10) {out : List Nat} (ho : LeastOf (pick (splitB (uni n (flat n n))) (2 ^ n)) out) : out = [] :=
  least_none (fun z hz => by
    rw [flat_split hn hz]
    have := pc_le_of hn hz
    simp [splQ]; omega) ho
end Go.Proofs.Ytfjcndlhpfbcgaa
