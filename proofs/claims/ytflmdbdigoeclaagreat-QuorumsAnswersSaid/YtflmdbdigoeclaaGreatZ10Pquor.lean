/- The program's quorums: all of them, the minimal ones. -/
import Derived.Test.YtflmdbdigoeclaaGreatZ10Cut
namespace Go.Proofs.YtflmdbdigoeclaaGreat
open Go Go.Ab Go.Sort
def quoB (c : Config) (s : Nat) : Bool := (s != 0) && (subB s (decl c) && (nodes s).all fun k => sat s (tr c k))
theorem quoB_iff {c : Config} {s : Nat} (hs : s < 1024) : quoB c s = true ↔ Quorum c s := by
  simp only [quoB, Quorum, Bool.and_eq_true, bne_iff_ne, subB_iff, List.all_eq_true]
  constructor
  · rintro ⟨h1, h2, h3⟩
    exact ⟨h1, h2, fun k hk => h3 k (mem_nodes.2 ⟨hk, bit_lt_of hs hk⟩)⟩
  · rintro ⟨h1, h2, h3⟩
    exact ⟨h1, h2, fun k hk => h3 k (mem_nodes.1 hk).1⟩
theorem pquo_l1 {c : Config} {s : Nat} (hs : s < 1024) (hd : Sub s (decl c)) (hc : SmallC c) (l : List Nat) (hl : l.length ≤ 10) : ∀ (suf : List Nat) (i : Nat), l.drop i = suf → (∀ k ∈ suf, s.testBit k = true) →
    ∃ k, closure_unhappy_l1 (s : Int) (l.map Int.ofNat) ((l.length : Nat) : Int) (i : Int) c.Members = some (k, !(suf.all fun k => sat s (tr c k)))
  | [], i, h, hm => by
    refine ⟨0, ?_⟩
    apply closure_unhappy_l1_le
    rw [ltB_end h]; rfl
  | k :: suf, i, h, hm => by
    have hlt := lt_drop h
    obtain ⟨m, h1, h2, _⟩ := member_of (hd k (hm k (by simp)))
    obtain ⟨q, ih⟩ := pquo_l1 hs hd hc l hl suf (i + 1) (drop_next h) (fun j hj => hm j (by simp [hj]))
    have hcon : closure_content c (k : Int) (s : Int) = some (sat s (tr c k)) := by
      apply closure_content_le
      rw [nth_get (by omega) (by simpa using h1), psatisfied_ok hs m.Trust (hc.2 m (List.mem_of_getElem? h1)), h2]
      rfl
    cases hsat : sat s (tr c k) with
    | true =>
      refine ⟨q, ?_⟩
      apply closure_unhappy_l1_le
      rw [ltB_drop h]
      simp only [cond_true, nth_drop (map_drop_cons h)]
      rw [show Config.mk c.Members = c from rfl, hcon, hsat, next_nat (by omega), ih]
      simp [hsat]
    | false =>
      refine ⟨k, ?_⟩
      apply closure_unhappy_l1_le
      rw [ltB_drop h]
      simp only [cond_true, nth_drop (map_drop_cons h)]
      rw [show Config.mk c.Members = c from rfl, hcon, hsat]
      simp [hsat]
theorem pquorum_ok {c : Config} {s : Nat} (hs : s < 1024) (hc : SmallC c) : closure_Quorum c (s : Int) = some (quoB c s) := by
  have hd := decl_lt c
  apply closure_Quorum_le
  rw [nvalid_ok, okS_nat hs, eqB_nat]
  simp only [Option.bind_some, Bool.not_true, cond_false, quoB]
  by_cases h0 : s = 0
  · subst h0; rfl
  · have hb0 : (s == 0) = false := by simp [h0]
    have hb1 : (s != 0) = true := by simp [h0]
    have h1 : closure_inside c (s : Int) = some (subB s (decl c)) := by
      apply closure_inside_le
      rw [pdeclared_ok c hc.1]
      simp only [Option.bind_some]
      rw [andNotI_nat (by omega) (by omega), eqB_nat]; rfl
    rw [h1, hb0, hb1]
    simp only [Option.bind_some, cond_false, Bool.true_and]
    cases h2 : subB s (decl c) with
    | false => rfl
    | true =>
      obtain ⟨k, h3⟩ := pquo_l1 hs (subB_iff.1 h2) hc (nodes s) (nodes_len s) (nodes s) 0 rfl fun k hk => (mem_nodes.1 hk).1
      have h4 : closure_unhappy c (s : Int) = some (k, !((nodes s).all fun k => sat s (tr c k))) := by
        apply closure_unhappy_le
        rw [pnodes_ok hs]
        simp only [Option.bind_some, List.length_map]
        exact h3
      rw [h4]
      simp only [Bool.not_true, cond_false, Option.bind_some, Bool.not_not, Bool.true_and]
theorem rquorum_ok {c : Config} {s : Nat} (hs : s < 1024) (hc : SmallC c) : ref09_Quorum c (s : Int) = some (quoB c s) := by
  obtain ⟨r, h1, h2⟩ := quorum_ok hs hc
  rw [h1]
  congr 1
  rw [Bool.eq_iff_iff, h2, quoB_iff hs]
theorem pow10 {n : Nat} (h : n ≤ 10) : 2 ^ n ≤ 1024 := Nat.pow_le_pow_right (n := 2) (by decide) h
theorem all_l1 {c : Config} (hc : SmallC c) {n : Nat} (hn : n ≤ 10) : ∀ (k i : Nat), i + k = 2 ^ n →
    quorums_all_l1 ((pick (quoB c) i).map Int.ofNat) ((2 ^ n : Nat) : Int) (i : Int) c.Members = some ((pick (quoB c) (2 ^ n)).map Int.ofNat)
  | 0, i, h => by
    have : i = 2 ^ n := by omega
    subst this
    apply quorums_all_l1_le
    rw [ltB_false (by omega)]; rfl
  | k + 1, i, h => by
    have hp := pow10 hn
    have ih := all_l1 hc hn k (i + 1) (by omega)
    rw [pick_succ] at ih
    have hle := pick_len (quoB c) i
    apply quorums_all_l1_le
    rw [ltB_true (by omega), show Config.mk c.Members = c from rfl, pquorum_ok (s := i) (by omega) hc, next_nat (by omega)]
    simp only [cond_true, Option.bind_some]
    cases hq : quoB c i with
    | true =>
      rw [if_pos hq, List.map_append] at ih
      rw [capOk_true (by simp [maxElems]; omega)]
      exact ih
    | false =>
      rw [if_neg (by simp [hq])] at ih
      exact ih
theorem all_ok {c : Config} (hc : SmallC c) (hn : c.Members.length ≤ 10) : quorums_all c = some ((pick (quoB c) (2 ^ c.Members.length)).map Int.ofNat) := by
  apply quorums_all_le
  rw [chk_true (by omega), shl1 (by omega) (by omega), Int.toNat_natCast]
  have := all_l1 hc hn (2 ^ c.Members.length) 0 (by omega)
  simpa [pick] using this
theorem pminimal_ok {c : Config} (hc : SmallC c) (he : cerr c = 0) : ∃ out, quorums_Minimal c = some (out.map Int.ofNat, 0) ∧ LeastOf (pick (quoB c) (2 ^ c.Members.length)) out := by
  have hn := (cerr_zero.1 he).1
  have hp := pow10 hn
  obtain ⟨out, h1, h2⟩ := nleast_ok (pick (quoB c) (2 ^ c.Members.length)) (by have := pick_len (quoB c) (2 ^ c.Members.length); omega) fun s hs => by have := (mem_pick.1 hs).1; omega
  refine ⟨out, ?_, h2⟩
  apply quorums_Minimal_le
  rw [pcerr_ok hc, he]
  simp only [Option.bind_some, neB_self, cond_false]
  rw [all_ok hc hn]
  simp only [Option.bind_some]
  rw [h1]; rfl
theorem pcount_ok {c : Config} (hc : SmallC c) (he : cerr c = 0) : quorums_Count c = some ((((pick (quoB c) (2 ^ c.Members.length)).length : Nat) : Int), 0) := by
  have hn := (cerr_zero.1 he).1
  apply quorums_Count_le
  rw [pcerr_ok hc, he]
  simp only [Option.bind_some, neB_self, cond_false]
  rw [all_ok hc hn]
  simp only [Option.bind_some, List.length_map]
end Go.Proofs.YtflmdbdigoeclaaGreat
