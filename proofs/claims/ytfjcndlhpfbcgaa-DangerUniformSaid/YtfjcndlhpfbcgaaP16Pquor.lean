/- The program's quorums: all of them, the minimal ones. -/
import Derived.Test.YtfjcndlhpfbcgaaP16Cut
namespace Go.Proofs.Ytfjcndlhpfbcgaa
open Go Go.Ab Go.Sort
def quoB (c : Config) (s : Nat) : Bool := (s != 0) && (subB s (decl c) && (nodes s).all fun k => sat s (tr c k))
theorem quoB_iff {c : Config} {s : Nat} (hs : s < 1024) : quoB c s = true ↔ Quorum c s := by
  simp only [quoB, Quorum, Bool.and_eq_true, bne_iff_ne, subB_iff, List.all_eq_true]
  constructor
  · rintro ⟨h1, h2, h3⟩
    exact ⟨h1, h2, fun k hk => h3 k (mem_nodes.2 ⟨hk, bit_lt_of hs hk⟩)⟩
  · rintro ⟨h1, h2, h3⟩
    exact ⟨h1, h2, fun k hk => h3 k (mem_nodes.1 hk).1⟩
theorem pquo_l1 {c : Config} {s : Nat} (hs : s < 1024) (hd : Sub s (decl c)) (hc : SmallC c) (l : List Nat) (hl : l.length ≤ 10) : ∀ (suf : List Nat) (i : Nat), l.drop i = suf → (∀ k ∈ suf, s.testBit k = true) →
    ∃ k, z1i (s : Int) (l.map Int.ofNat) ((l.length : Nat) : Int) (i : Int) c.Members = some (k, !(suf.all fun k => sat s (tr c k)))
  | [], i, h, hm => by
    refine ⟨0, ?_⟩
    apply z1i_le
    rw [ltB_end h]; rfl
  | k :: suf, i, h, hm => by
    have hlt := lt_drop h
    obtain ⟨m, h1, h2, _⟩ := member_of (hd k (hm k (by simp)))
    obtain ⟨q, ih⟩ := pquo_l1 hs hd hc l hl suf (i + 1) (drop_next h) (fun j hj => hm j (by simp [hj]))
    have hcon : z2f c (k : Int) (s : Int) = some (sat s (tr c k)) := by
      apply z2f_le
      rw [nth_get (by omega) (by simpa using h1), psatisfied_ok hs m.Trust (hc.2 m (List.mem_of_getElem? h1)), h2]
      rfl
    cases hsat : sat s (tr c k) with
    | true =>
      refine ⟨q, ?_⟩
      apply z1i_le
      rw [ltB_drop h]
      simp only [cond_true, nth_drop (map_drop_cons h)]
      rw [show Config.mk c.Members = c from rfl, hcon, hsat, next_nat (by omega), ih]
      simp [hsat]
    | false =>
      refine ⟨k, ?_⟩
      apply z1i_le
      rw [ltB_drop h]
      simp only [cond_true, nth_drop (map_drop_cons h)]
      rw [show Config.mk c.Members = c from rfl, hcon, hsat]
      simp [hsat]
theorem pquorum_ok {c : Config} {s : Nat} (hs : s < 1024) (hc : SmallC c) : z3l c (s : Int) = some (quoB c s) := by
  have hd := decl_lt c
  apply z3l_le
  rw [nvalid_ok, okS_nat hs, eqB_nat]
  simp only [Option.bind_some, Bool.not_true, cond_false, quoB]
  by_cases h0 : s = 0
  · subst h0; rfl
  · have hb0 : (s == 0) = false := by simp [h0]
    have hb1 : (s != 0) = true := by simp [h0]
    have h1 : z3n c (s : Int) = some (subB s (decl c)) := by
      apply z3n_le
      rw [pdeclared_ok c hc.1]
      simp only [Option.bind_some]
      rw [andNotI_nat (by omega) (by omega), eqB_nat]; rfl
    rw [h1, hb0, hb1]
    simp only [Option.bind_some, cond_false, Bool.true_and]
    cases h2 : subB s (decl c) with
    | false => rfl
    | true =>
      obtain ⟨k, h3⟩ := pquo_l1 hs (subB_iff.1 h2) hc (nodes s) (nodes_len s) (nodes s) 0 rfl fun k hk => (mem_nodes.1 hk).1
      have h4 : z29 c (s : Int) = some (k, !((nodes s).all fun k => sat s (tr c k))) := by
        apply z29_le
        rw [pnodes_ok hs]
        simp only [Option.bind_some, List.length_map]
        exact h3
      rw [h4]
      simp only [Bool.not_true, cond_false, Option.bind_some, Bool.not_not, Bool.true_and]
theorem pow10 {n : Nat} (h : n ≤ 10) : 2 ^ n ≤ 1024 := Nat.pow_le_pow_right (n := 2) (by decide) h
theorem decl_members {c : Config} (_hn : c.Members.length ≤ 10) : decl c < 2 ^ c.Members.length := by
  refine Nat.lt_of_not_le fun hge => ?_
  obtain ⟨i, hi, hb⟩ := Nat.exists_ge_and_testBit_of_ge_two_pow hge
  obtain ⟨m, h1, _⟩ := member_of hb
  have := (List.getElem?_eq_some_iff.1 h1).1
  omega
end Go.Proofs.Ytfjcndlhpfbcgaa
