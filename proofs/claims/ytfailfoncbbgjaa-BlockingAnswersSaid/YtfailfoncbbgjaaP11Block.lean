/- Who blocks a member; the cascade: what both texts compute, and what it means. -/
import Derived.Test.YtfailfoncbbgjaaP11Quor
import Derived.Test.YtfailfoncbbgjaaP11Prog
namespace Go.Proofs.Ytfailfoncbbgjaa
open Go Go.Ab
theorem or_lt {a b : Nat} (ha : a < 1024) (hb : b < 1024) : a ||| b < 1024 := Nat.or_lt_two_pow (n := 10) ha hb
theorem ndiff_lt' {a b : Nat} (ha : a < 1024) : ndiff a b < 1024 := ndiff_lt (n := 10) ha
theorem pow_lt' {k : Nat} (h : k < 10) : 2 ^ k < 1024 := Nat.pow_lt_pow_right (a := 2) (by decide) h
theorem testBit_all {i : Nat} : (1023 : Nat).testBit i = decide (i < 10) := by
  rw [show (1023 : Nat) = 2 ^ 10 - 1 from rfl, Nat.testBit_two_pow_sub_one]
theorem sub_all {s : Nat} (hs : s < 1024) : 1023 - s = ndiff 1023 s := by
  apply Nat.eq_of_testBit_eq
  intro i
  rw [show 1023 - s = 2 ^ 10 - (s + 1) from by omega, Nat.testBit_two_pow_sub_succ (by omega), testBit_ndiff, testBit_all]
theorem Sub.left {a b : Nat} : Sub a (a ||| b) := fun i hi => by simp [Nat.testBit_or, hi]
theorem Sub.right {a b : Nat} : Sub b (a ||| b) := fun i hi => by simp [Nat.testBit_or, hi]
theorem has_of {s : Nat} {k : Int} (h : has s k = true) : ∃ n : Nat, k = (n : Int) ∧ n < 10 ∧ s.testBit n = true := by
  simp only [has, Bool.and_eq_true, decide_eq_true_eq] at h
  exact ⟨k.toNat, by omega, by omega, h.2.2⟩
theorem or_pow_gt {s k : Nat} (h : s.testBit k = false) : s < s ||| 2 ^ k := by
  refine Nat.lt_of_le_of_ne Nat.left_le_or fun e => ?_
  have : (s ||| 2 ^ k).testBit k = true := by simp [Nat.testBit_or]
  rw [← e, h] at this; cases this
def blk (c : Config) (v s : Nat) : Bool := (decl c).testBit v && !sat (ndiff 1023 s ||| 2 ^ v) (tr c v)
theorem blk_decl {c : Config} {v s : Nat} (h : blk c v s = true) : (decl c).testBit v = true ∧ v < 10 := by
  simp only [blk, Bool.and_eq_true] at h
  exact ⟨h.1, bit_lt_of (decl_lt c) h.1⟩
theorem blocks_ok {c : Config} (hc : SmallC c) {s : Nat} (hs : s < 1024) (v : Int) : blocking_Blocks c v s = some (decide (0 ≤ v) && blk c v.toNat s) := by
  apply blocking_Blocks_le
  rw [nodeset_Valid_ok hs]
  simp only [Option.bind_some, Bool.not_true, cond_false]
  rw [pdeclared_ok c hc.1]
  simp only [Option.bind_some]
  rw [nodeset_Has_ok (decl_lt c)]
  simp only [Option.bind_some]
  by_cases hh : has (decl c) v = true
  · obtain ⟨n, rfl, hn, hb⟩ := has_of hh
    obtain ⟨m, h1, h2, _⟩ := member_of hb
    have h3 : ndiff 1023 s ||| 2 ^ n < 1024 := or_lt (ndiff_lt' (by decide)) (pow_lt' hn)
    have hp := pow_lt' hn
    rw [hh, chk_true (by omega), nth_get (by omega) (by simpa using h1), shl1 (by omega) (by omega)]
    simp only [Bool.not_true, cond_false, Int.toNat_natCast]
    have e1 : andNotI .i64 1023 (s : Int) = ((ndiff 1023 s : Nat) : Int) := andNotI_nat (a := 1023) (by decide) (by omega)
    rw [e1, orI_nat (by have := ndiff_lt' (a := 1023) (b := s) (by decide); omega) (by omega), psatisfied_ok h3 m.Trust (hc.2 m (List.mem_of_getElem? h1))]
    simp [blk, hb, h2]
  · have hf : has (decl c) v = false := by simpa using hh
    rw [hf]
    simp only [Bool.not_false, cond_true]
    symm
    congr 1
    by_cases h0 : 0 ≤ v
    · have : (decl c).testBit v.toNat = false := by
        by_cases h1 : v < 10
        · simpa [has, h0, h1] using hf
        · cases hb : (decl c).testBit v.toNat with
          | false => rfl
          | true => have := bit_lt_of (decl_lt c) hb; omega
      simp [blk, this]
    · simp [h0]
theorem rblocks_ok {c : Config} (hc : SmallC c) {s : Nat} (hs : s < 1024) (v : Int) : ref11_Blocks c v s = some (decide (0 ≤ v) && blk c v.toNat s) := by
  apply ref11_Blocks_le
  rw [ref01_Valid_ok hs]
  simp only [Option.bind_some, Bool.not_true, cond_false]
  rw [declared_ok c hc.1]
  simp only [Option.bind_some]
  rw [ref01_Has_ok (decl_lt c)]
  simp only [Option.bind_some]
  by_cases hh : has (decl c) v = true
  · obtain ⟨n, rfl, hn, hb⟩ := has_of hh
    obtain ⟨m, h1, h2, _⟩ := member_of hb
    have h3 : ndiff 1023 s ||| 2 ^ n < 1024 := or_lt (ndiff_lt' (by decide)) (pow_lt' hn)
    have hp := pow_lt' hn
    rw [hh, chk_true (by omega), nth_get (by omega) (by simpa using h1), shl1 (by omega) (by omega)]
    simp only [Bool.not_true, cond_false, Int.toNat_natCast]
    have e1 : subI .i64 1023 (s : Int) = ((ndiff 1023 s : Nat) : Int) := by rw [subI64 (by omega) (by omega), ← sub_all hs]; omega
    rw [e1, orI_nat (by have := ndiff_lt' (a := 1023) (b := s) (by decide); omega) (by omega), satisfied_ok h3 m.Trust (hc.2 m (List.mem_of_getElem? h1))]
    simp [blk, hb, h2]
  · have hf : has (decl c) v = false := by simpa using hh
    rw [hf]
    simp only [Bool.not_false, cond_true]
    symm
    congr 1
    by_cases h0 : 0 ≤ v
    · have : (decl c).testBit v.toNat = false := by
        by_cases h1 : v < 10
        · simpa [has, h0, h1] using hf
        · cases hb : (decl c).testBit v.toNat with
          | false => rfl
          | true => have := bit_lt_of (decl_lt c) hb; omega
      simp [blk, this]
    · simp [h0]
theorem blocks_nat {c : Config} (hc : SmallC c) {s : Nat} (hs : s < 1024) (v : Nat) : blocking_Blocks c (v : Int) s = some (blk c v s) := by rw [blocks_ok hc hs]; simp
theorem rblocks_nat {c : Config} (hc : SmallC c) {s : Nat} (hs : s < 1024) (v : Nat) : ref11_Blocks c (v : Int) s = some (blk c v s) := by rw [rblocks_ok hc hs]; simp
theorem nodesFrom_ndiff (d s : Nat) : ∀ n i, nodesFrom (ndiff d s) n i = (nodesFrom d n i).filter (fun k => !s.testBit k)
  | 0, i => rfl
  | n + 1, i => by
    simp only [nodesFrom, testBit_ndiff]
    rw [nodesFrom_ndiff d s n (i + 1)]
    cases d.testBit i <;> cases h : s.testBit i <;> simp [h]
def nextv (c : Config) (s : Nat) : Option Nat := (nodes (ndiff (decl c) s)).find? fun k => blk c k s
def casc (c : Config) : Nat → Nat → List Nat × Nat
  | 0, s => ([], s)
  | n + 1, s => match nextv c s with
    | none => ([], s)
    | some k => (k :: (casc c n (s ||| 2 ^ k)).1, (casc c n (s ||| 2 ^ k)).2)
def cascade (c : Config) (s : Nat) : List Nat × Nat := casc c (1024 - s) s
theorem nextv_some {c : Config} {s k : Nat} (h : nextv c s = some k) : k < 10 ∧ (decl c).testBit k = true ∧ s.testBit k = false ∧ blk c k s = true := by
  have h1 := List.find?_some h
  have h2 := mem_nodes.1 (List.mem_of_find?_eq_some h)
  simp only [testBit_ndiff, Bool.and_eq_true, Bool.not_eq_true'] at h2
  exact ⟨h2.2, h2.1.1, h2.1.2, h1⟩
theorem next_l1 {c : Config} (hc : SmallC c) {s : Nat} (hs : s < 1024) (l : List Nat) (hl : l.length ≤ 10) : ∀ (suf : List Nat) (i : Nat), l.drop i = suf →
    blocking_next_l1 (s : Int) (l.map Int.ofNat) ((l.length : Nat) : Int) (i : Int) c.Members = some (match suf.find? fun k => blk c k s with | some k => ((k : Int), true) | none => (0, false))
  | [], i, h => by
    apply blocking_next_l1_le
    rw [ltB_end h]
    rfl
  | k :: suf, i, h => by
    have hlt := lt_drop h
    have hm : (l.map Int.ofNat).drop i = (k : Int) :: suf.map Int.ofNat := by rw [← List.map_drop, h]; rfl
    apply blocking_next_l1_le
    rw [ltB_drop h]
    simp only [cond_true, nth_drop hm]
    rw [show Config.mk c.Members = c from rfl, blocks_nat hc hs]
    simp only [Option.bind_some, List.find?_cons]
    cases blk c k s with
    | true => rfl
    | false =>
      simp only [cond_false]
      rw [next_nat (by omega)]
      exact next_l1 hc hs l hl suf (i + 1) (drop_next h)
theorem next_ok {c : Config} (hc : SmallC c) {s : Nat} (hs : s < 1024) : blocking_next c s = some (match nextv c s with | some k => ((k : Int), true) | none => (0, false)) := by
  apply blocking_next_le
  rw [pdeclared_ok c hc.1]
  simp only [Option.bind_some]
  have hd := decl_lt c
  rw [andNotI_nat (by omega) (by omega), pnodes_ok (ndiff_lt' hd)]
  simp only [Option.bind_some, List.length_map]
  exact next_l1 hc hs _ (nodes_len _) _ 0 rfl
theorem rnext_l1 {c : Config} (hc : SmallC c) {s : Nat} (hs : s < 1024) (l : List Nat) (hl : l.length ≤ 10) (h10 : ∀ k ∈ l, k < 10) : ∀ (suf : List Nat) (i : Nat), l.drop i = suf →
    ref11_next_l1 (s : Int) (l.map Int.ofNat) ((l.length : Nat) : Int) (i : Int) c.Members = some (match (suf.filter fun k => !s.testBit k).find? fun k => blk c k s with | some k => (k : Int) | none => -1)
  | [], i, h => by
    apply ref11_next_l1_le
    rw [ltB_end h]
    rfl
  | k :: suf, i, h => by
    have hlt := lt_drop h
    have hk : k < 10 := h10 k (List.mem_of_mem_drop (by rw [h]; simp))
    have hm : (l.map Int.ofNat).drop i = (k : Int) :: suf.map Int.ofNat := by rw [← List.map_drop, h]; rfl
    apply ref11_next_l1_le
    rw [ltB_drop h]
    simp only [cond_true, nth_drop hm]
    rw [ref01_Has_ok hs, has_nat hk, show Config.mk c.Members = c from rfl, rblocks_nat hc hs, next_nat (by omega), rnext_l1 hc hs l hl h10 suf (i + 1) (drop_next h)]
    simp only [Option.bind_some, List.filter_cons]
    cases s.testBit k with
    | true => rfl
    | false =>
      simp only [Bool.not_false, cond_true, if_true, List.find?_cons]
      cases blk c k s <;> rfl
theorem rnext_ok {c : Config} (hc : SmallC c) {s : Nat} (hs : s < 1024) : ref11_next c s = some (match nextv c s with | some k => (k : Int) | none => -1) := by
  apply ref11_next_le
  rw [declared_ok c hc.1]
  simp only [Option.bind_some]
  rw [nodes_ok (decl_lt c)]
  simp only [Option.bind_some, List.length_map]
  have := rnext_l1 hc hs (nodes (decl c)) (nodes_len _) (fun k hk => (mem_nodes.1 hk).2) _ 0 rfl
  rw [show (0 : Int) = ((0 : Nat) : Int) from rfl, this]
  simp only [nextv, nodes, nodesFrom_ndiff, List.drop_zero]
theorem casc_l1 {c : Config} (hc : SmallC c) : ∀ (n s : Nat) (acc : List Int), 1024 - s ≤ n → s < 1024 → acc.length + (1024 - s) ≤ 1024 →
    blocking_Cascade_l1 (s : Int) acc (match nextv c s with | some k => (k : Int) | none => 0) (match nextv c s with | some _ => true | none => false) c.Members = some (acc ++ (casc c n s).1.map Int.ofNat, ((casc c n s).2 : Int))
  | 0, s, acc, hn, hs, ha => by omega
  | n + 1, s, acc, hn, hs, ha => by
    apply blocking_Cascade_l1_le
    cases hx : nextv c s with
    | none => simp [casc, hx]
    | some k =>
      obtain ⟨h1, h2, h3, h4⟩ := nextv_some hx
      have hgt := or_pow_gt h3
      have hlt : s ||| 2 ^ k < 1024 := or_lt hs (pow_lt' h1)
      have hp := pow_lt' h1
      simp only [cond_true]
      rw [capOk_true (by simp [maxElems]; omega), chk_true (by omega), shl1 (by omega) (by omega), Int.toNat_natCast, orI_nat (by omega) (by omega), show Config.mk c.Members = c from rfl, next_ok hc hlt]
      simp only [Option.bind_some]
      have := casc_l1 hc n (s ||| 2 ^ k) (acc ++ [(k : Int)]) (by omega) hlt (by simp; omega)
      simp only [casc, hx]
      cases hy : nextv c (s ||| 2 ^ k) with
      | none => rw [hy] at this; simp only at this ⊢; rw [this]; simp
      | some j => rw [hy] at this; simp only at this ⊢; rw [this]; simp
theorem cascade_ok {c : Config} (hc : SmallC c) {s : Nat} (hs : s < 1024) : blocking_Cascade c s = some ((cascade c s).1.map Int.ofNat, ((cascade c s).2 : Int)) := by
  apply blocking_Cascade_le
  rw [nodeset_Valid_ok hs]
  simp only [Option.bind_some, Bool.not_true, cond_false]
  rw [next_ok hc hs]
  simp only [Option.bind_some]
  have := casc_l1 hc (1024 - s) s [] (Nat.le_refl _) hs (by simp)
  cases hx : nextv c s with
  | none => rw [hx] at this; simpa [cascade] using this
  | some k => rw [hx] at this; simpa [cascade] using this
theorem rcasc_l1 {c : Config} (hc : SmallC c) : ∀ (n s : Nat) (acc : List Int), 1024 - s ≤ n → s < 1024 → acc.length + (1024 - s) ≤ 1024 →
    ref11_Cascade_l1 (s : Int) acc (match nextv c s with | some k => (k : Int) | none => -1) c.Members = some (acc ++ (casc c n s).1.map Int.ofNat, ((casc c n s).2 : Int))
  | 0, s, acc, hn, hs, ha => by omega
  | n + 1, s, acc, hn, hs, ha => by
    apply ref11_Cascade_l1_le
    cases hx : nextv c s with
    | none =>
      simp only
      rw [leB_false (by omega)]
      simp [casc, hx]
    | some k =>
      obtain ⟨h1, h2, h3, h4⟩ := nextv_some hx
      have hgt := or_pow_gt h3
      have hlt : s ||| 2 ^ k < 1024 := or_lt hs (pow_lt' h1)
      have hp := pow_lt' h1
      simp only
      rw [leB_true (by omega)]
      simp only [cond_true]
      rw [chk_true (by omega), capOk_true (by simp [maxElems]; omega), shl1 (by omega) (by omega), Int.toNat_natCast, orI_nat (by omega) (by omega), show Config.mk c.Members = c from rfl, rnext_ok hc hlt]
      simp only [Option.bind_some]
      have := rcasc_l1 hc n (s ||| 2 ^ k) (acc ++ [(k : Int)]) (by omega) hlt (by simp; omega)
      simp only [casc, hx]
      rw [this]; simp
theorem rcascade_ok {c : Config} (hc : SmallC c) {s : Nat} (hs : s < 1024) : ref11_Cascade c s = some ((cascade c s).1.map Int.ofNat, ((cascade c s).2 : Int)) := by
  apply ref11_Cascade_le
  rw [ref01_Valid_ok hs]
  simp only [Option.bind_some, Bool.not_true, cond_false]
  rw [rnext_ok hc hs]
  simp only [Option.bind_some]
  have := rcasc_l1 hc (1024 - s) s [] (Nat.le_refl _) hs (by simp)
  simpa [cascade] using this
end Go.Proofs.Ytfailfoncbbgjaa
