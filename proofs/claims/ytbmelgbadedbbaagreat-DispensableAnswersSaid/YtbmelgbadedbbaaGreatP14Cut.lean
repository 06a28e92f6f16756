/- Slices of a trust, sets that meet a list, the least sets that block. -/
import Derived.Test.YtbmelgbadedbbaaGreatP14Errs
import Derived.Test.YtbmelgbadedbbaaGreatP14Block
import Derived.Test.YtbmelgbadedbbaaGreatP14Least
namespace Go.Proofs.YtbmelgbadedbbaaGreat
open Go Go.Ab Go.Sort
theorem qkl {a b : List Int} (hl : a.length < 1152921504606846976) (hab : a.length = b.length) : ∀ (n i : Nat), i + n = a.length →
  ∃ r, z5g a b ((a.length : Nat) : Int) (i : Int) = some r ∧ (r = true ↔ a.drop i = b.drop i)
 | 0, i, h => by
  refine ⟨true, ?_, by simp [List.drop_eq_nil_of_le (show a.length ≤ i by omega), List.drop_eq_nil_of_le (show b.length ≤ i by omega)]⟩
  apply quu;rw [q00 (by omega)]
  rfl
 | n + 1, i, h => by
  have h1 : i < a.length := by omega
  have h2 : i < b.length := by omega
  obtain ⟨r, e1, e2⟩ := qkl hl hab n (i + 1) (by omega)
  rw [qj6 h1 h2];by_cases hx : a[i] = b[i]
  ·refine ⟨r, ?_, by rw [e2]; simp [hx]⟩
   apply quu;rw [q03 (by omega), q0v (by omega) (show a[((i : Nat) : Int).toNat]? = some a[i] by simp), q0v (by omega) (show b[((i : Nat) : Int).toNat]? = some b[i] by simp), hx, q0d, q02 (by omega)]
   simp only [cond_true, cond_false];exact e1
  ·refine ⟨false, ?_, by simp [hx]⟩
   apply quu;rw [q03 (by omega), q0v (by omega) (show a[((i : Nat) : Int).toNat]? = some a[i] by simp), q0v (by omega) (show b[((i : Nat) : Int).toNat]? = some b[i] by simp), q0s hx]
   rfl
theorem y76 {a b : List Int} (hl : a.length < 1152921504606846976) : ∃ r, z6h a b = some r ∧ (r = true ↔ a = b) := by
 by_cases hab : a.length = b.length
 ·obtain ⟨r, e1, e2⟩ := qkl hl hab a.length 0 (by omega)
  refine ⟨r, ?_, by simpa using e2⟩
  apply y0x;rw [← hab, q0d];exact e1
 ·refine ⟨false, ?_, by simp; rintro rfl; exact hab rfl⟩
  apply y0x;rw [q0s (by omega)]
  rfl
theorem qhx {a b : List Int} (hl : a.length < 1152921504606846976) : z6h a b = some (decide (a = b)) := by
 obtain ⟨r, h1, h2⟩ := y76 (b := b) hl;rw [h1];congr 1
 rw [Bool.eq_iff_iff, h2, decide_eq_true_eq]
def pick (p : Nat → Bool) (n : Nat) : List Nat := (List.range n).filter p
theorem qkd (p : Nat → Bool) (n : Nat) : pick p (n + 1) = if p n = true then pick p n ++ [n] else pick p n := by
 unfold pick;rw [List.range_succ, List.filter_append];by_cases h : p n = true <;> simp [h]
theorem q7v {p : Nat → Bool} {n s : Nat} : s ∈ pick p n ↔ s < n ∧ p s = true := by simp [pick]
theorem qer (p : Nat → Bool) (n : Nat) : (pick p n).length ≤ n := by
 have := List.length_filter_le p (List.range n);simpa [pick] using this
theorem qn9 (a : Nat) : neB (a : Int) 0 = (a != 0) := by
 by_cases h : a = 0
 ·subst h; rfl
 ·rw [q0s (by omega)]; simp [h]
theorem q5n (a : Nat) : eqB (a : Int) 0 = (a == 0) := by
 by_cases h : a = 0
 ·subst h; rfl
 ·rw [q0t (by omega)]; simp [h]
theorem q2j {l : List Nat} {i k : Nat} {suf : List Nat} (h : l.drop i = k :: suf) : (l.map Int.ofNat).drop i = (k : Int) :: suf.map Int.ofNat := by
 rw [← List.map_drop, h]; rfl
theorem qia {u : Nat} (hu : u < 1024) {r : List Int} (hr : z0j ((pick (fun s => subB s u) (u + 1)).map Int.ofNat) = some r) : ∀ (n i : Nat), i + n = u + 1 →
  z27 (u : Int) ((pick (fun s => subB s u) i).map Int.ofNat) (i : Int) = some r
 | 0, i, h => by
  have : i = u + 1 := by omega
  subst this;apply y1z;rw [q5m, q8j hu, q09 (by omega)]
  simp only [Option.bind_some, cond_true, cond_false, hr]
 | n + 1, i, h => by
  have ih := qia hu hr n (i + 1) (by omega)
  rw [qkd] at ih;have hle := qer (fun s => subB s u) i
  apply y1z;rw [q5m, q8j hu, q0e (by omega), q2y (by omega) (by omega), q5n, q02 (by omega)]
  simp only [Option.bind_some, cond_true];cases h1 : subB i u with
  | true =>
   rw [show (ndiff i u == 0) = true from h1, q06 (by simp [q0f]; omega)]
   rw [if_pos h1, List.map_append] at ih;exact ih
  | false =>
   rw [show (ndiff i u == 0) = false from h1]
   rw [if_neg (by simp [h1])] at ih
   exact ih
theorem qfm {a b : Nat} (h : Sub a b) : a ≤ b := by
 rw [← qd4.1 h]; exact Nat.and_le_right
theorem LeastOf.of {l l' out : List Nat} (h : LeastOf l out) (hm : ∀ s, Mins l s ↔ Mins l' s) : LeastOf l' out := ⟨h.1, fun s => by rw [h.2, hm]⟩
theorem qf0 : ∀ {l : List Int} {k : Int}, k ∈ l → inR k = true → has (usesN l) k = true
 | [], k, h, _ => by cases h
 | y :: r, k, h, hk => by
  have hk' := hk;simp only [inR, Bool.and_eq_true, decide_eq_true_eq] at hk';simp only [usesN];rw [qg1];rcases List.mem_cons.1 h with rfl | h
  ·have : has (2 ^ k.toNat) k = true := by simp [has, hk'.1, hk'.2]
   simp [this, hk, bit]
  ·rw [qf0 h hk]; simp
theorem qgg : ∀ {l : List Trust} {x : Trust}, x ∈ l → Sub (uses x) (usesL l)
 | [], x, h => by cases h
 | y :: r, x, h => by
  simp only [usesL];rcases List.mem_cons.1 h with rfl | h
  ·exact Sub.left
  ·exact (qgg h).trans Sub.right
theorem qrm {s z : Nat} : ∀ t : Trust, (∀ k : Int, has (uses t) k = true → has s k = has z k) → sat s t = sat z t := by
 apply Trust.ind;intro t ih h;rw [q8b, q8b];have h1 : cnt s t.Nodes = cnt z t.Nodes := by
  unfold cnt;apply List.countP_congr;intro k hk;by_cases hr : inR k = true
  ·have := qf0 hk hr;rw [h k (by rw [q67, qg1, this]; rfl)]
  ·have hn := qj7 hr;have : ∀ w, has w k = false := fun w => by
    by_cases h0 : 0 ≤ k
    ·have : ¬ k < 10 := fun h' => hn ⟨h0, h'⟩
     simp [has, this]
    ·simp [has, h0]
   rw [this, this]
 have h2 : ∀ l : List Trust, (∀ x ∈ l, sat s x = sat z x) → sats s l = sats z l := by
  intro l;induction l with
  | nil => intro _; rfl
  | cons y r ihr =>
   intro hl;simp only [sats];rw [hl y (by simp), ihr fun x hx => hl x (by simp [hx])]
 rw [h1, h2 t.Inner fun x hx => ih x hx fun k hk => h k (by
  have h3 : Sub (uses x) (uses t) := by rw [q67 t]; exact (qgg hx).trans Sub.right
  exact qom h3 k hk)]
end Go.Proofs.YtbmelgbadedbbaaGreat
