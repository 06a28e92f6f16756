/- Slices of a trust, sets that meet a list, the least sets that block. -/
import Derived.Test.YtfjcndlhpfbcgaaP16Errs
import Derived.Test.YtfjcndlhpfbcgaaP16Block
import Derived.Test.YtfjcndlhpfbcgaaP16Least
namespace Go.Proofs.Ytfjcndlhpfbcgaa
open Go Go.Ab Go.Sort
theorem mkints_l1 {a b : List Int} (hl : a.length < 1152921504606846976) (hab : a.length = b.length) : ∀ (n i : Nat), i + n = a.length →
    ∃ r, z3g a b ((a.length : Nat) : Int) (i : Int) = some r ∧ (r = true ↔ a.drop i = b.drop i)
  | 0, i, h => by
    refine ⟨true, ?_, by simp [List.drop_eq_nil_of_le (show a.length ≤ i by omega), List.drop_eq_nil_of_le (show b.length ≤ i by omega)]⟩
    apply z3g_le
    rw [ltB_false (by omega)]
    rfl
  | n + 1, i, h => by
    have h1 : i < a.length := by omega
    have h2 : i < b.length := by omega
    obtain ⟨r, e1, e2⟩ := mkints_l1 hl hab n (i + 1) (by omega)
    rw [drop_iff h1 h2]
    by_cases hx : a[i] = b[i]
    · refine ⟨r, ?_, by rw [e2]; simp [hx]⟩
      apply z3g_le
      rw [ltB_true (by omega), nth_get (by omega) (show a[((i : Nat) : Int).toNat]? = some a[i] by simp), nth_get (by omega) (show b[((i : Nat) : Int).toNat]? = some b[i] by simp), hx, neB_self, next_nat (by omega)]
      simp only [cond_true, cond_false]
      exact e1
    · refine ⟨false, ?_, by simp [hx]⟩
      apply z3g_le
      rw [ltB_true (by omega), nth_get (by omega) (show a[((i : Nat) : Int).toNat]? = some a[i] by simp), nth_get (by omega) (show b[((i : Nat) : Int).toNat]? = some b[i] by simp), neB_ne hx]
      rfl
theorem mkints {a b : List Int} (hl : a.length < 1152921504606846976) : ∃ r, z3v a b = some r ∧ (r = true ↔ a = b) := by
  by_cases hab : a.length = b.length
  · obtain ⟨r, e1, e2⟩ := mkints_l1 hl hab a.length 0 (by omega)
    refine ⟨r, ?_, by simpa using e2⟩
    apply z3v_le
    rw [← hab, neB_self]
    exact e1
  · refine ⟨false, ?_, by simp; rintro rfl; exact hab rfl⟩
    apply z3v_le
    rw [neB_ne (by omega)]
    rfl
theorem mkints_dec {a b : List Int} (hl : a.length < 1152921504606846976) : z3v a b = some (decide (a = b)) := by
  obtain ⟨r, h1, h2⟩ := mkints (b := b) hl
  rw [h1]
  congr 1
  rw [Bool.eq_iff_iff, h2, decide_eq_true_eq]
def pick (p : Nat → Bool) (n : Nat) : List Nat := (List.range n).filter p
theorem pick_succ (p : Nat → Bool) (n : Nat) : pick p (n + 1) = if p n = true then pick p n ++ [n] else pick p n := by
  unfold pick
  rw [List.range_succ, List.filter_append]
  by_cases h : p n = true <;> simp [h]
theorem mem_pick {p : Nat → Bool} {n s : Nat} : s ∈ pick p n ↔ s < n ∧ p s = true := by simp [pick]
theorem pick_len (p : Nat → Bool) (n : Nat) : (pick p n).length ≤ n := by
  have := List.length_filter_le p (List.range n)
  simpa [pick] using this
theorem neB_nat (a : Nat) : neB (a : Int) 0 = (a != 0) := by
  by_cases h : a = 0
  · subst h; rfl
  · rw [neB_ne (by omega)]; simp [h]
theorem eqB_nat (a : Nat) : eqB (a : Int) 0 = (a == 0) := by
  by_cases h : a = 0
  · subst h; rfl
  · rw [eqB_ne (by omega)]; simp [h]
theorem map_drop_cons {l : List Nat} {i k : Nat} {suf : List Nat} (h : l.drop i = k :: suf) : (l.map Int.ofNat).drop i = (k : Int) :: suf.map Int.ofNat := by
  rw [← List.map_drop, h]; rfl
theorem drop_pre {pre suf l : List Nat} (h : l = pre ++ suf) : l.drop pre.length = suf := by rw [h]; simp
theorem subsets_l1 {u : Nat} (hu : u < 1024) {r : List Int} (hr : z0e ((pick (fun s => subB s u) (u + 1)).map Int.ofNat) = some r) : ∀ (n i : Nat), i + n = u + 1 →
    z1s (u : Int) ((pick (fun s => subB s u) i).map Int.ofNat) (i : Int) = some r
  | 0, i, h => by
    have : i = u + 1 := by omega
    subst this
    apply z1s_le
    rw [nvalid_ok, okS_nat hu, leB_false (by omega)]
    simp only [Option.bind_some, cond_true, cond_false, hr]
  | n + 1, i, h => by
    have ih := subsets_l1 hu hr n (i + 1) (by omega)
    rw [pick_succ] at ih
    have hle := pick_len (fun s => subB s u) i
    apply z1s_le
    rw [nvalid_ok, okS_nat hu, leB_true (by omega), andNotI_nat (by omega) (by omega), eqB_nat, next_nat (by omega)]
    simp only [Option.bind_some, cond_true]
    cases h1 : subB i u with
    | true =>
      rw [show (ndiff i u == 0) = true from h1, capOk_true (by simp [maxElems]; omega)]
      rw [if_pos h1, List.map_append] at ih
      exact ih
    | false =>
      rw [show (ndiff i u == 0) = false from h1]
      rw [if_neg (by simp [h1])] at ih
      exact ih
theorem sub_le {a b : Nat} (h : Sub a b) : a ≤ b := by
  rw [← sub_iff.1 h]; exact Nat.and_le_right
theorem LeastOf.of {l l' out : List Nat} (h : LeastOf l out) (hm : ∀ s, Mins l s ↔ Mins l' s) : LeastOf l' out := ⟨h.1, fun s => by rw [h.2, hm]⟩
end Go.Proofs.Ytfjcndlhpfbcgaa
