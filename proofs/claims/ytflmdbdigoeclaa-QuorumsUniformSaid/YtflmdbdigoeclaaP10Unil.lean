/- QuorumsUniform: the law's own loops. -/
import Derived.Test.YtflmdbdigoeclaaP10Unif
namespace Go.Proofs.Ytflmdbdigoeclaa
open Go Go.Ab
theorem pick_snoc (p : Nat → Bool) (z : Nat) : (pick p (z + 1)).length = (pick p z).length + (if p z = true then 1 else 0) := by
  rw [pick_succ]; split <;> simp
section
variable {n k : Nat}
theorem unif_l2 (hn : n ≤ 10) {out : List Nat} (hol : out.length ≤ 1024) (ho : ∀ z ∈ out, z < 2 ^ n ∧ pc z = k) {m sets more : Int} (h1 : ((out.length : Nat) : Int) = sets) (h2 : m = more) : ∀ (suf : List Nat) (i : Nat), out.drop i = suf →
    law10_QuorumsUniform_l2 (n : Int) (k : Int) (out.map Int.ofNat) 0 m 0 [((2 ^ n - 1 : Nat) : Int)] 0 true 0 sets more (out.map Int.ofNat) ((out.length : Nat) : Int) (i : Int) = some true
  | [], i, h => by
    have hp := pow10 hn
    have hpos := Nat.two_pow_pos n
    apply law10_QuorumsUniform_l2_le
    rw [ltB_end h, List.length_map, h1, h2]
    simp only [cond_false, eqB_self, cond_true]
    rw [chk_true (by omega), shl1 (by omega) (by omega), Int.toNat_natCast, subI64 (by omega) (by omega), show ((2 ^ n : Nat) : Int) - 1 = ((2 ^ n - 1 : Nat) : Int) by omega, mkints_dec (by simp), decide_eq_true rfl]
    simp only [Option.bind_some, cond_true, awake_true]
  | z :: suf, i, h => by
    have hp := pow10 hn
    have hlt := lt_drop h
    obtain ⟨q1, q2⟩ := ho z (List.mem_of_mem_drop (by rw [h]; simp))
    have ih := unif_l2 hn hol ho h1 h2 suf (i + 1) (drop_next h)
    apply law10_QuorumsUniform_l2_le
    rw [ltB_drop h]
    simp only [cond_true, nth_drop (map_drop_cons h)]
    rw [rsize_ok (show z < 1024 by omega), q2]
    simp only [Option.bind_some, neB_self, cond_false]
    rw [chk_true (by omega), shl1 (by omega) (by omega), Int.toNat_natCast, leB_false (by omega), next_nat (by omega)]
    exact ih
theorem unif_l1 (hn : n ≤ 10) {l p : List Int} {a6 m a10 a14 a18 : Int} {y : Bool}
    (K : law10_QuorumsUniform_l2 (n : Int) (k : Int) l a6 m a10 p a14 y a18 (((pick (fun z => decide (pc z = k)) (2 ^ n)).length : Nat) : Int) (((pick (fun z => decide (k ≤ pc z)) (2 ^ n)).length : Nat) : Int) l ((l.length : Nat) : Int) 0 = some true) : ∀ (j z : Nat), z + j = 2 ^ n →
    law10_QuorumsUniform_l1 (n : Int) (k : Int) l a6 m a10 p a14 y a18 (((pick (fun z => decide (pc z = k)) z).length : Nat) : Int) (((pick (fun z => decide (k ≤ pc z)) z).length : Nat) : Int) (z : Int) = some true
  | 0, z, h => by
    have : z = 2 ^ n := by omega
    subst this
    have hp := pow10 hn
    apply law10_QuorumsUniform_l1_le
    rw [chk_true (by omega), shl1 (by omega) (by omega), Int.toNat_natCast, ltB_false (by omega)]
    exact K
  | j + 1, z, h => by
    have hp := pow10 hn
    have ih := unif_l1 hn K j (z + 1) (by omega)
    have l1 := pick_len (fun z => decide (pc z = k)) z
    have l2 := pick_len (fun z => decide (k ≤ pc z)) z
    rw [pick_snoc, pick_snoc] at ih
    apply law10_QuorumsUniform_l1_le
    rw [chk_true (by omega), shl1 (by omega) (by omega), Int.toNat_natCast, ltB_true (by omega), rsize_ok (show z < 1024 by omega)]
    simp only [cond_true, Option.bind_some]
    by_cases h1 : pc z = k
    · have h2 : k ≤ pc z := by omega
      rw [if_pos (decide_eq_true h1), if_pos (decide_eq_true h2)] at ih
      rw [show eqB ((pc z : Nat) : Int) (k : Int) = true by rw [h1, eqB_self], leB_true (by omega)]
      simp only [cond_true]
      rw [next_nat (by omega), next_nat (by omega), next_nat (by omega)]
      exact ih
    · rw [if_neg (by simp [h1])] at ih
      rw [eqB_ne (by omega)]
      simp only [cond_false]
      by_cases h2 : k ≤ pc z
      · rw [if_pos (decide_eq_true h2)] at ih
        rw [leB_true (by omega)]
        simp only [cond_true]
        rw [next_nat (by omega), next_nat (by omega)]
        exact ih
      · rw [if_neg (by simp [h2])] at ih
        rw [leB_false (by omega)]
        simp only [cond_false]
        rw [next_nat (by omega)]
        exact ih
end
theorem one_mod {a : Int} (ha : 0 ≤ a ∧ a < 256) {m : Nat} (hm : 1 ≤ m) (hm2 : m ≤ 10) : ∃ r : Nat, addI .i64 1 (remI .i64 (IntKind.wrap .i64 a) (m : Int)) = (r : Int) ∧ 1 ≤ r ∧ r ≤ m := by
  rw [wrap64 (by omega) (by omega), show remI .i64 a (m : Int) = a.tmod (m : Int) from rfl, Int.tmod_eq_emod_of_nonneg ha.1]
  have h1 := Int.emod_nonneg a (show (m : Int) ≠ 0 by omega)
  have h2 := Int.emod_lt_of_pos a (show (0 : Int) < (m : Int) by omega)
  rw [addI64 (by omega) (by omega)]
  exact ⟨(1 + a % (m : Int)).toNat, by omega, by omega, by omega⟩
theorem uniform_law (a b : Int) (ha : 0 ≤ a ∧ a < 256) (hb : 0 ≤ b ∧ b < 256) : law10_QuorumsUniform a b = some true := by
  apply law10_QuorumsUniform_le
  obtain ⟨n, e1, n1, n2⟩ := one_mod ha (m := 8) (by decide) (by decide)
  rw [show ((8 : Nat) : Int) = 8 from rfl] at e1
  rw [e1]
  obtain ⟨k, e2, k1, k2⟩ := one_mod hb n1 (show n ≤ 10 by omega)
  rw [e2, chk_true (by omega), usame_ok n1 (show n ≤ 10 by omega)]
  simp only [Option.bind_some]
  have hn : n ≤ 10 := by omega
  have hv := flat_valid hn k1 k2
  have hsm := valid_small hv
  have hg : good (flat n k) = true := by simp only [valid, Bool.and_eq_true] at hv; exact hv.2.2
  have hu := uses_below _ (flat_below n k)
  have hp := pow10 hn
  obtain ⟨out, m1, m2⟩ := pminimal_ok (uni_small hn hsm) (uni_valid hn hv hu)
  rw [uni_len, uni_pick hn hg] at m2
  have hol := ord_len m2.1 fun s hs => by have := (mem_pick.1 ((m2.2 s).1 hs).1).1; omega
  rw [m1]
  simp only [Option.bind_some]
  rw [ucount_ok hn hsm hv hu]
  simp only [Option.bind_some]
  rw [uparts_ok hn k1 k2]
  simp only [Option.bind_some]
  rw [usym_ok hn hsm hv hu]
  simp only [Option.bind_some]
  have hcount : pick (fun z => sat z (flat n k)) (2 ^ n) = pick (fun z => decide (k ≤ pc z)) (2 ^ n) := by
    unfold pick
    apply List.filter_congr
    intro z hz
    exact flat_sat hn (List.mem_range.1 hz)
  have key := unif_l1 (k := k) hn (l := out.map Int.ofNat) (p := [((2 ^ n - 1 : Nat) : Int)]) (a6 := 0) (m := (((pick (fun z => sat z (flat n k)) (2 ^ n)).length : Nat) : Int)) (a10 := 0) (a14 := 0) (a18 := 0) (y := true) (by
    rw [List.length_map]
    exact unif_l2 hn hol (fun z hz => by have := mem_pick.1 ((least_flat hn k1 m2 z).1 hz); exact ⟨this.1, by simpa using this.2⟩) (by rw [least_flat_len hn k1 m2]) (by rw [hcount]) out 0 rfl) (2 ^ n) 0 (by omega)
  simpa [pick] using key
end Go.Proofs.Ytflmdbdigoeclaa
