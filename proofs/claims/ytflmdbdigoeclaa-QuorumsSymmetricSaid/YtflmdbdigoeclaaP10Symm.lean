/- QuorumsSymmetric: the law, on the machine. -/
import Derived.Test.YtflmdbdigoeclaaP10Uni
import Derived.Test.YtflmdbdigoeclaaP10Awake
namespace Go.Proofs.Ytflmdbdigoeclaa
open Go Go.Ab
theorem symm_l2 {n : Nat} (hn : n ≤ 10) {x : Trust} (hx : Small x) {m : Int} {tl : List Int} {ti : Int} {ms : List Member} (hm : m = (((pick (fun z => sat z x) (2 ^ n)).length : Nat) : Int)) : ∀ (j z : Nat), z + j = 2 ^ n →
    law10_QuorumsSymmetric_l2 (n : Int) true 0 m 0 (((pick (fun z => sat z x) z).length : Nat) : Int) (z : Int) tl ti x.Threshold x.Nodes x.Inner ms = some true
  | 0, z, h => by
    have : z = 2 ^ n := by omega
    subst this
    have hp := pow10 hn
    apply law10_QuorumsSymmetric_l2_le
    rw [chk_true (by omega), shl1 (by omega) (by omega), Int.toNat_natCast, ltB_false (by omega), hm]
    simp only [cond_false, eqB_self, cond_true, awake_true, Option.bind_some]
  | j + 1, z, h => by
    have hp := pow10 hn
    have ih := symm_l2 hn hx (tl := tl) (ti := ti) (ms := ms) hm j (z + 1) (by omega)
    have hle := pick_len (fun z => sat z x) z
    rw [pick_succ] at ih
    apply law10_QuorumsSymmetric_l2_le
    rw [chk_true (by omega), shl1 (by omega) (by omega), Int.toNat_natCast, ltB_true (by omega), show Trust.mk x.Threshold x.Nodes x.Inner = x by cases x; rfl, satisfied_ok (s := z) (by omega) x hx]
    simp only [cond_true, Option.bind_some]
    cases hs : sat z x with
    | true =>
      rw [if_pos hs] at ih
      simp only [cond_true]
      rw [next_nat (by omega), next_nat (by omega)]
      simpa using ih
    | false =>
      rw [if_neg (by simp [hs])] at ih
      simp only [cond_false]
      rw [next_nat (by omega)]
      exact ih
theorem symm_l1 {n : Nat} (hn : n ≤ 10) {x : Trust} (hx : Small x) (hv : valid x = true) (hu : uses x < 2 ^ n) {tl : List Int} {ti : Int} : ∀ (j i : Nat), i + j = n →
    law10_QuorumsSymmetric_l1 (n : Int) (i : Int) tl ti x.Threshold x.Nodes x.Inner (List.replicate i ⟨true, x⟩) = some true
  | 0, i, h => by
    have : i = n := by omega
    subst this
    apply law10_QuorumsSymmetric_l1_le
    rw [ltB_false (by omega), show Config.mk (List.replicate i ⟨true, x⟩) = uni i x from rfl, usym_ok hn hx hv hu]
    simp only [cond_false, Option.bind_some]
    rw [ucount_ok hn hx hv hu]
    simp only [Option.bind_some]
    have := symm_l2 hn hx (tl := tl) (ti := ti) (ms := List.replicate i ⟨true, x⟩) rfl (2 ^ i) 0 (by omega)
    simpa [pick] using this
  | j + 1, i, h => by
    have ih := symm_l1 hn hx hv hu (tl := tl) (ti := ti) j (i + 1) (by omega)
    rw [List.replicate_succ'] at ih
    apply law10_QuorumsSymmetric_l1_le
    rw [ltB_true (by omega), capOk_true (by simp [maxElems]; omega), next_nat (by omega), show Trust.mk x.Threshold x.Nodes x.Inner = x by cases x; rfl]
    exact ih
theorem symmetric_law (t : List Int) : law10_QuorumsSymmetric t = some true := by
  apply law10_QuorumsSymmetric_le
  obtain ⟨l, e1, t1⟩ := New_ok t
  obtain ⟨n0, j1, e2, n1, n2, t2⟩ := Range_ok (a := 1) (b := 7) (by decide) (by decide) (by decide) t1
  obtain ⟨n, rfl⟩ := Int.eq_ofNat_of_zero_le (show 0 ≤ n0 by omega)
  obtain ⟨x, j2, e3, hx, hsm, t3⟩ := Trust_ok (n := (n : Int)) (by omega) (by omega) 2 (by decide) t2
  rw [e1]
  simp only [Option.bind_some]
  rw [e2]
  simp only [Option.bind_some]
  rw [show (3 : Int) = ((2 + 1 : Nat) : Int) from rfl, e3]
  simp only [Option.bind_some]
  exact symm_l1 (show n ≤ 10 by omega) hsm hx.1 (uses_below x hx.2) n 0 (by omega)
end Go.Proofs.Ytflmdbdigoeclaa
