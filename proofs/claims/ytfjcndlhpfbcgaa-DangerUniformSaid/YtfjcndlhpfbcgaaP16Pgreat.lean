/- The program's greatest quorum in a set. -/
import Derived.Test.YtfjcndlhpfbcgaaP16Pquor
namespace Go.Proofs.Ytfjcndlhpfbcgaa
open Go Go.Ab Go.Sort
theorem punh_l1 {c : Config} {s : Nat} (hs : s < 1024) (hd : Sub s (decl c)) (hc : SmallC c) (l : List Nat) (hl : l.length ≤ 10) : ∀ (suf : List Nat) (i : Nat), l.drop i = suf → (∀ k ∈ suf, s.testBit k = true) →
    z1i (s : Int) (l.map Int.ofNat) ((l.length : Nat) : Int) (i : Int) c.Members = some (match suf.find? (fun k => !sat s (tr c k)) with | some k => ((k : Int), true) | none => (0, false))
  | [], i, h, hm => by
    apply z1i_le
    rw [ltB_end h]; rfl
  | k :: suf, i, h, hm => by
    have hlt := lt_drop h
    obtain ⟨m, h1, h2, _⟩ := member_of (hd k (hm k (by simp)))
    have ih := punh_l1 hs hd hc l hl suf (i + 1) (drop_next h) (fun j hj => hm j (by simp [hj]))
    have hcon : z2f c (k : Int) (s : Int) = some (sat s (tr c k)) := by
      apply z2f_le
      rw [nth_get (by omega) (by simpa using h1), psatisfied_ok hs m.Trust (hc.2 m (List.mem_of_getElem? h1)), h2]
      rfl
    apply z1i_le
    rw [ltB_drop h]
    simp only [cond_true, nth_drop (map_drop_cons h)]
    rw [show Config.mk c.Members = c from rfl, hcon, next_nat (by omega), ih, List.find?_cons]
    cases sat s (tr c k) <;> rfl
theorem punh_ok {c : Config} {s : Nat} (hs : s < 1024) (hd : Sub s (decl c)) (hc : SmallC c) : z29 c (s : Int) = some (match unhappy c s with | some k => ((k : Int), true) | none => (0, false)) := by
  apply z29_le
  rw [pnodes_ok hs]
  simp only [Option.bind_some, List.length_map]
  exact punh_l1 hs hd hc (nodes s) (nodes_len s) (nodes s) 0 rfl fun k hk => (mem_nodes.1 hk).1
theorem ndiff_pow {s k : Nat} (h : s.testBit k = true) : ndiff s (2 ^ k) = s - 2 ^ k := by
  apply Nat.eq_of_testBit_eq
  intro i
  rw [testBit_ndiff, testBit_sub_pow h, testBit_pow]
  by_cases hi : k = i
  · subst hi; simp
  · have : i ≠ k := fun e => hi e.symm
    simp [hi, this]
theorem pelim_run {c : Config} (hc : SmallC c) : ∀ (n s : Nat) (acc : List Int), s < n → s < 1024 → Sub s (decl c) → acc.length + s < 1024 → ∃ l, z1u (s : Int) acc c.Members = some ((((elim c n s).2 : Nat) : Int), l)
  | 0, s, acc, h, _, _, _ => by omega
  | n + 1, s, acc, h, hs, hd, ha => by
    simp only [elim]
    cases hu : unhappy c s with
    | none =>
      refine ⟨acc, ?_⟩
      apply z1u_le
      rw [show Config.mk c.Members = c from rfl, punh_ok hs hd hc, hu]
      rfl
    | some k =>
      obtain ⟨h1, h2, _⟩ := unhappy_some hu
      obtain ⟨q1, q2⟩ := sub_pow h1
      have hp := pow_lt' h2
      obtain ⟨l, ih⟩ := pelim_run hc n (s - 2 ^ k) (acc ++ [(k : Int)]) (by omega) (by omega) (q2.trans hd) (by simp; omega)
      refine ⟨l, ?_⟩
      apply z1u_le
      rw [show Config.mk c.Members = c from rfl, punh_ok hs hd hc, hu]
      simp only [Option.bind_some, Bool.not_true, cond_false]
      rw [capOk_true (by simp [maxElems]; omega), chk_true (by omega), shl1 (by omega) (by omega), Int.toNat_natCast, andNotI_nat (by omega) (by omega), ndiff_pow h1]
      exact ih
theorem pgreatest_ok {c : Config} {s : Nat} (hs : s < 1024) (hc : SmallC c) : z2n c (s : Int) = some ((greatest c s : Nat) : Int) := by
  have hd := decl_lt c
  have hlt : s &&& decl c < 1024 := and_lt' hs
  obtain ⟨l, h⟩ := pelim_run hc 1024 (s &&& decl c) [] hlt hlt (Sub.and_right _ _) (by simp; omega)
  have he : z33 c (s : Int) = some ((((elim c 1024 (s &&& decl c)).2 : Nat) : Int), l) := by
    apply z33_le
    rw [nvalid_ok, okS_nat hs]
    simp only [Option.bind_some, Bool.not_true, cond_false]
    rw [pdeclared_ok c hc.1]
    simp only [Option.bind_some]
    rw [andI_nat (by omega) (by omega)]
    exact h
  apply z2n_le
  rw [he]
  rfl
end Go.Proofs.Ytfjcndlhpfbcgaa
