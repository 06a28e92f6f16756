/- The least sets of a list: both texts give those of which no other one is a proper subset, in order. -/
import Derived.Test.YtbmelgbadedbbaaGreatP14Ord
namespace Go.Proofs.YtbmelgbadedbbaaGreat
open Go Go.Ab Go.Sort
def Mins (l : List Nat) (s : Nat) : Prop := s ∈ l ∧ ∀ t ∈ l, Sub t s → t = s
def LeastOf (l out : List Nat) : Prop := out.Pairwise nlt ∧ ∀ s, s ∈ out ↔ Mins l s
theorem LeastOf.lt {l out : List Nat} (h : LeastOf l out) (hl : ∀ s ∈ l, s < 1024) : ∀ s ∈ out, s < 1024 := fun s hs => hl s ((h.2 s).1 hs).1
theorem qm8 {l : List Nat} (h : l.Pairwise nlt) : l.Nodup := h.imp (fun {a b} h e => by subst e; exact q18 _ h)
theorem y39 {l : List Nat} (h : l.Pairwise nlt) (hl : ∀ s ∈ l, s < 1024) : l.length ≤ 1024 := by
 have key : ∀ (n : Nat) (l : List Nat), l.Nodup → (∀ s ∈ l, s < n) → l.length ≤ n := by
  intro n;induction n with
  | zero => intro l _ h; cases l with
   | nil => simp
   | cons x r => have := h x (by simp); omega
  | succ n ih =>
   intro l hn h;have h1 := ih (l.erase n) (hn.erase n) (fun s hs => by
    have := h s (List.mem_of_mem_erase hs);have hne : s ≠ n := fun e => by subst e; exact (List.Nodup.not_mem_erase hn) hs
    omega)
   by_cases hm : n ∈ l
   ·rw [List.length_erase_of_mem hm] at h1; omega
   ·rw [List.erase_of_not_mem hm] at h1; omega
 exact key 1024 l (qm8 h) hl
def subB (t s : Nat) : Bool := ndiff t s == 0
theorem q5v {t s : Nat} : subB t s = true ↔ Sub t s := by
 unfold subB;rw [beq_iff_eq];constructor
 ·intro h i hi;have := congrArg (fun n => n.testBit i) h
  simp only [q07, Nat.zero_testBit, hi, Bool.true_and, Bool.not_eq_false'] at this;exact this
 ·intro h;apply Nat.eq_of_testBit_eq;intro i;rw [q07, Nat.zero_testBit];cases ht : t.testBit i with
  | false => rfl
  | true => rw [h i ht]; rfl
def keep (s : Nat) (out : List Nat) : List Nat := if out.any fun t => subB t s then out else out ++ [s]
theorem qn3 {l : List Nat} {ys : List Int} (h : ys.Perm (l.map Int.ofNat)) : ∃ zs : List Nat, ys = zs.map Int.ofNat ∧ zs.Perm l := by
 refine ⟨ys.map Int.toNat, ?_, ?_⟩
 ·rw [List.map_map];symm;have : ∀ y ∈ ys, (Int.ofNat ∘ Int.toNat) y = y := fun y hy => by
   obtain ⟨n, _, rfl⟩ := List.mem_map.1 (h.mem_iff.1 hy);rfl
  rw [List.map_congr_left this]; simp
 ·have := h.map Int.toNat;rw [List.map_map] at this;have e : l.map (Int.toNat ∘ Int.ofNat) = l := by
   have : ∀ y ∈ l, (Int.toNat ∘ Int.ofNat) y = y := fun y _ => rfl
   rw [List.map_congr_left this]; simp
  rwa [e] at this
theorem qxi (l : List Nat) (hl : l.length < 65536) (h : ∀ s ∈ l, s < 1024) :
  ∃ zs : List Nat, z0j (l.map Int.ofNat) = some (zs.map Int.ofNat) ∧ zs.Perm l ∧ zs.Pairwise fun a b => ¬ nlt b a := by
 obtain ⟨ys, h1, h2, h3⟩ := y2a y2d qyk (l.map Int.ofNat) (by simpa using hl)
 obtain ⟨zs, rfl, h4⟩ := qn3 h2;refine ⟨zs, h1, h4, ?_⟩;rw [List.pairwise_map] at h3;refine List.Pairwise.imp_of_mem (fun {a b} ha hb hab => ?_) h3
 intro hn;have ha' := h a (h4.mem_iff.1 ha);have hb' := h b (h4.mem_iff.1 hb);have := (qyt hb' ha').2 hn;have h5 : ltB (ncmp (b : Int) (a : Int)) 0 = false := hab;rw [this] at h5; cases h5
theorem Mins.perm {l l' : List Nat} (h : ∀ s, s ∈ l ↔ s ∈ l') (s : Nat) : Mins l s ↔ Mins l' s := by
 unfold Mins; rw [h]; simp only [h]
end Go.Proofs.YtbmelgbadedbbaaGreat
