/- Slices of a trust, sets that meet a list, the least sets that block. -/
import Derived.Test.YtflmdbdigoeclaaP10Errs
import Derived.Test.YtflmdbdigoeclaaP10Block
import Derived.Test.YtflmdbdigoeclaaP10Least
namespace Go.Proofs.Ytflmdbdigoeclaa
open Go Go.Ab Go.Sort
def pick (p : Nat → Bool) (n : Nat) : List Nat := (List.range n).filter p
theorem pick_succ (p : Nat → Bool) (n : Nat) : pick p (n + 1) = if p n = true then pick p n ++ [n] else pick p n := by
  unfold pick
  rw [List.range_succ, List.filter_append]
  by_cases h : p n = true <;> simp [h]
theorem mem_pick {p : Nat → Bool} {n s : Nat} : s ∈ pick p n ↔ s < n ∧ p s = true := by simp [pick]
theorem pick_len (p : Nat → Bool) (n : Nat) : (pick p n).length ≤ n := by
  have := List.length_filter_le p (List.range n)
  simpa [pick] using this
theorem neB_nat (a : Nat) : neB (a : Int) 0 = (a != 0) := by
  by_cases h : a = 0
  · subst h; rfl
  · rw [neB_ne (by omega)]; simp [h]
theorem eqB_nat (a : Nat) : eqB (a : Int) 0 = (a == 0) := by
  by_cases h : a = 0
  · subst h; rfl
  · rw [eqB_ne (by omega)]; simp [h]
theorem map_drop_cons {l : List Nat} {i k : Nat} {suf : List Nat} (h : l.drop i = k :: suf) : (l.map Int.ofNat).drop i = (k : Int) :: suf.map Int.ofNat := by
  rw [← List.map_drop, h]; rfl
theorem drop_pre {pre suf l : List Nat} (h : l = pre ++ suf) : l.drop pre.length = suf := by rw [h]; simp
theorem sub_le {a b : Nat} (h : Sub a b) : a ≤ b := by
  rw [← sub_iff.1 h]; exact Nat.and_le_right
theorem LeastOf.of {l l' out : List Nat} (h : LeastOf l out) (hm : ∀ s, Mins l s ↔ Mins l' s) : LeastOf l' out := ⟨h.1, fun s => by rw [h.2, hm]⟩
theorem usesN_has : ∀ {l : List Int} {k : Int}, k ∈ l → inR k = true → has (usesN l) k = true
  | [], k, h, _ => by cases h
  | y :: r, k, h, hk => by
    have hk' := hk
    simp only [inR, Bool.and_eq_true, decide_eq_true_eq] at hk'
    simp only [usesN]
    rw [has_union]
    rcases List.mem_cons.1 h with rfl | h
    · have : has (2 ^ k.toNat) k = true := by simp [has, hk'.1, hk'.2]
      simp [this, hk, bit]
    · rw [usesN_has h hk]; simp
theorem usesL_sub : ∀ {l : List Trust} {x : Trust}, x ∈ l → Sub (uses x) (usesL l)
  | [], x, h => by cases h
  | y :: r, x, h => by
    simp only [usesL]
    rcases List.mem_cons.1 h with rfl | h
    · exact Sub.left
    · exact (usesL_sub h).trans Sub.right
theorem sat_uses {s z : Nat} : ∀ t : Trust, (∀ k : Int, has (uses t) k = true → has s k = has z k) → sat s t = sat z t := by
  apply Trust.ind
  intro t ih h
  rw [sat_eq, sat_eq]
  have h1 : cnt s t.Nodes = cnt z t.Nodes := by
    unfold cnt
    apply List.countP_congr
    intro k hk
    by_cases hr : inR k = true
    · have := usesN_has hk hr
      rw [h k (by rw [uses_eq, has_union, this]; rfl)]
    · have hn := not_inR hr
      have : ∀ w, has w k = false := fun w => by
        by_cases h0 : 0 ≤ k
        · have : ¬ k < 10 := fun h' => hn ⟨h0, h'⟩
          simp [has, this]
        · simp [has, h0]
      rw [this, this]
  have h2 : ∀ l : List Trust, (∀ x ∈ l, sat s x = sat z x) → sats s l = sats z l := by
    intro l
    induction l with
    | nil => intro _; rfl
    | cons y r ihr =>
      intro hl
      simp only [sats]
      rw [hl y (by simp), ihr fun x hx => hl x (by simp [hx])]
  rw [h1, h2 t.Inner fun x hx => ih x hx fun k hk => h k (by
    have h3 : Sub (uses x) (uses t) := by rw [uses_eq t]; exact (usesL_sub hx).trans Sub.right
    exact has_sub h3 k hk)]
end Go.Proofs.Ytflmdbdigoeclaa
