/- Quorums and the greatest quorum: what the reference computes, and what it means. -/
import Derived.Test.YtflmdbdigoeclaaGreatZ10Sets
namespace Go.Proofs.YtflmdbdigoeclaaGreat
open Go Go.Ab
def Quorum (c : Config) (s : Nat) : Prop := s ≠ 0 ∧ Sub s (decl c) ∧ ∀ k, s.testBit k = true → sat s (tr c k) = true
def SmallC (c : Config) : Prop := c.Members.length < 1152921504606846976 ∧ ∀ m ∈ c.Members, Small m.Trust
theorem ConfOk.good {n : Nat} {c : Config} (h : ConfOk n c) : ∀ m ∈ c.Members, m.Declared = true → Good (c.Members.length : Int) m.Trust := fun m hm hd => by
  have := h.mem m hm
  unfold MemOk at this
  rwa [if_pos hd] at this
theorem member_of {c : Config} {k : Nat} (h : (decl c).testBit k = true) : ∃ m, c.Members[k]? = some m ∧ tr c k = m.Trust ∧ m.Declared = true := by
  obtain ⟨_, m, h1, h2⟩ := testBit_decl.1 h
  exact ⟨m, h1, by simp [tr, h1], h2⟩
theorem quorum_l1 {c : Config} {s : Nat} (hs : s < 1024) (hd : Sub s (decl c)) (hc : SmallC c) (l : List Nat) (hl : l.length ≤ 10) : ∀ (suf : List Nat) (i : Nat), l.drop i = suf → (∀ k ∈ suf, s.testBit k = true) →
    ∃ r, ref09_Quorum_l1 (s : Int) (l.map Int.ofNat) ((l.length : Nat) : Int) (i : Int) c.Members = some r ∧ (r = true ↔ ∀ k ∈ suf, sat s (tr c k) = true)
  | [], i, h, hm => by
    refine ⟨true, ?_, by simp⟩
    apply ref09_Quorum_l1_le
    rw [ltB_end h]
    rfl
  | k :: suf, i, h, hm => by
    have hlt := lt_drop h
    obtain ⟨m, h1, h2, _⟩ := member_of (hd k (hm k (by simp)))
    have h' : (l.map Int.ofNat).drop i = (k : Int) :: suf.map Int.ofNat := by rw [← List.map_drop, h]; rfl
    obtain ⟨r, e1, e2⟩ := quorum_l1 hs hd hc l hl suf (i + 1) (drop_next h) (fun x hx => hm x (by simp [hx]))
    have step : ∀ res, (bif (!(sat s m.Trust)) then some false else ref09_Quorum_l1 (s : Int) (l.map Int.ofNat) ((l.length : Nat) : Int) ((i + 1 : Nat) : Int) c.Members) = some res → ref09_Quorum_l1 (s : Int) (l.map Int.ofNat) ((l.length : Nat) : Int) (i : Int) c.Members = some res := by
      intro res hres
      apply ref09_Quorum_l1_le
      rw [ltB_true (by omega), nth_drop h', nth_get (by omega) (show c.Members[((k : Nat) : Int).toNat]? = some m by simpa using h1), satisfied_ok hs m.Trust (hc.2 m (List.mem_of_getElem? h1)), next_nat (by omega)]
      exact hres
    cases hq : sat s (tr c k) with
    | true =>
      rw [h2] at hq
      exact ⟨r, step r (by rw [hq]; exact e1), by rw [e2]; simp [h2, hq]⟩
    | false =>
      rw [h2] at hq
      exact ⟨false, step false (by rw [hq]; rfl), by simp [h2, hq]⟩
theorem quorum_ok {c : Config} {s : Nat} (hs : s < 1024) (hc : SmallC c) : ∃ r, ref09_Quorum c (s : Int) = some r ∧ (r = true ↔ Quorum c s) := by
  by_cases h0 : s = 0
  · refine ⟨false, ?_, by simp [Quorum, h0]⟩
    apply ref09_Quorum_le
    rw [ref01_Valid_ok hs]
    simp only [Option.bind_some, Bool.not_true, cond_false, h0, Int.natCast_zero, eqB_self, cond_true]
  · by_cases hd : Sub s (decl c)
    · obtain ⟨r, e1, e2⟩ := quorum_l1 hs hd hc (nodes s) (nodes_len s) (nodes s) 0 rfl (fun k hk => (mem_nodes.1 hk).1)
      refine ⟨r, ?_, ?_⟩
      · apply ref09_Quorum_le
        rw [ref01_Valid_ok hs]
        simp only [Option.bind_some, Bool.not_true, cond_false, eqB_ne (show (s : Int) ≠ 0 by omega), declared_ok c hc.1]
        rw [andI_nat (by omega) (by have := decl_lt c; omega), sub_iff.1 hd, neB_self, nodes_ok hs]
        simp only [cond_false, Option.bind_some, List.length_map]
        exact e1
      · rw [e2]
        constructor
        · intro h; exact ⟨h0, hd, fun k hk => h k (mem_nodes.2 ⟨hk, bit_lt_of hs hk⟩)⟩
        · intro h k hk; exact h.2.2 k (mem_nodes.1 hk).1
    · refine ⟨false, ?_, by simp [Quorum, hd]⟩
      apply ref09_Quorum_le
      rw [ref01_Valid_ok hs]
      simp only [Option.bind_some, Bool.not_true, cond_false, eqB_ne (show (s : Int) ≠ 0 by omega), declared_ok c hc.1]
      rw [andI_nat (by omega) (by have := decl_lt c; omega), neB_ne (by rw [sub_iff] at hd; omega)]
      rfl
def unhappy (c : Config) (s : Nat) : Option Nat := (nodes s).find? fun k => !sat s (tr c k)
def elim (c : Config) : Nat → Nat → List Nat × Nat
  | 0, s => ([], s)
  | n + 1, s => match unhappy c s with
    | none => ([], s)
    | some k => (k :: (elim c n (s - 2 ^ k)).1, (elim c n (s - 2 ^ k)).2)
def greatest (c : Config) (s : Nat) : Nat := (elim c 1024 (s &&& decl c)).2
end Go.Proofs.YtflmdbdigoeclaaGreat
