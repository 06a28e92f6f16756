/- Quorums and the greatest quorum: what the reference computes, and what it means. -/
import Derived.Test.YtflmdbdigoeclaaP10Sets
namespace Go.Proofs.Ytflmdbdigoeclaa
open Go Go.Ab
def Quorum (c : Config) (s : Nat) : Prop := s ≠ 0 ∧ Sub s (decl c) ∧ ∀ k, s.testBit k = true → sat s (tr c k) = true
def SmallC (c : Config) : Prop := c.Members.length < 1152921504606846976 ∧ ∀ m ∈ c.Members, Small m.Trust
theorem valid_small {t : Trust} (h : valid t = true) : Small t := by
  simp only [valid, Bool.and_eq_true, decide_eq_true_eq] at h
  unfold Small; omega
theorem ConfOk.smallC {n : Nat} {c : Config} (h : ConfOk n c) (hn : n ≤ 10) : SmallC c := by
  refine ⟨by have := h.le; omega, fun m hm => ?_⟩
  have := h.mem m hm
  unfold MemOk at this
  split at this
  · exact valid_small this.1
  · rw [this]; unfold Small; simp [blank, size, sizes]
theorem ConfOk.good {n : Nat} {c : Config} (h : ConfOk n c) : ∀ m ∈ c.Members, m.Declared = true → Good (c.Members.length : Int) m.Trust := fun m hm hd => by
  have := h.mem m hm
  unfold MemOk at this
  rwa [if_pos hd] at this
theorem member_of {c : Config} {k : Nat} (h : (decl c).testBit k = true) : ∃ m, c.Members[k]? = some m ∧ tr c k = m.Trust ∧ m.Declared = true := by
  obtain ⟨_, m, h1, h2⟩ := testBit_decl.1 h
  exact ⟨m, h1, by simp [tr, h1], h2⟩
def unhappy (c : Config) (s : Nat) : Option Nat := (nodes s).find? fun k => !sat s (tr c k)
def elim (c : Config) : Nat → Nat → List Nat × Nat
  | 0, s => ([], s)
  | n + 1, s => match unhappy c s with
    | none => ([], s)
    | some k => (k :: (elim c n (s - 2 ^ k)).1, (elim c n (s - 2 ^ k)).2)
def greatest (c : Config) (s : Nat) : Nat := (elim c 1024 (s &&& decl c)).2
end Go.Proofs.Ytflmdbdigoeclaa
