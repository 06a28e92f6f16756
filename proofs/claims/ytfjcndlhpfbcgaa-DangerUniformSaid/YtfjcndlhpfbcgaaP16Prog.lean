/- The program's own functions of trusts and sets: they compute what the references do. -/
import Derived.Test.YtfjcndlhpfbcgaaP16Sets
namespace Go.Proofs.Ytfjcndlhpfbcgaa
open Go Go.Ab
theorem psatisfied_l1 {s : Nat} (hs : s < 1024) (xs : List Int) (hl : xs.length < 1152921504606846976) (a11 : Int) (a13 : List Int) (a15 : List Trust) :
    ∀ (suf : List Int) (i c : Nat), xs.drop i = suf → c ≤ i → Le (z1h s ((c + cnt s suf : Nat) : Int) a15 ((a15.length : Nat) : Int) 0 a11 a13 a15) (z1l s (c : Int) xs ((xs.length : Nat) : Int) (i : Int) a11 a13 a15)
  | [], i, c, h, hc => fun r hr => by
    apply z1l_le
    simp only [ltB_end h, cond_false]
    exact hr
  | y :: suf, i, c, h, hc => fun r hr => by
    apply z1l_le
    have hlt := lt_drop h
    simp only [ltB_drop h, cond_true, nth_drop h, nodeset_Has_ok hs, Option.bind_some, next_nat (show i < 4611686018427387904 by omega), next_nat (show c < 4611686018427387904 by omega)]
    cases hy : has s y with
    | true =>
      simp only [cond_true]
      refine psatisfied_l1 hs xs hl a11 a13 a15 suf (i + 1) (c + 1) (drop_next h) (by omega) r ?_
      rw [← hr]; congr 2
      simp only [cnt, List.countP_cons, hy, if_true]; omega
    | false =>
      simp only [cond_false]
      refine psatisfied_l1 hs xs hl a11 a13 a15 suf (i + 1) c (drop_next h) (by omega) r ?_
      rw [← hr]; congr 2
      simp only [cnt, List.countP_cons, hy]; rfl
theorem psatisfied_ok {s : Nat} (hs : s < 1024) : ∀ t : Trust, Small t → z2a t s = some (sat s t) := by
  apply Trust.ind
  intro t ih ht
  have hn := ht.nodes
  have hi := ht.inner
  have l2 : ∀ (suf : List Trust) (i c : Nat), t.Inner.drop i = suf → c ≤ t.Nodes.length + i → z1h s (c : Int) t.Inner ((t.Inner.length : Nat) : Int) (i : Int) t.Threshold t.Nodes t.Inner = some (decide (t.Threshold ≤ ((c + sats s suf : Nat) : Int))) := by
    intro suf
    induction suf with
    | nil =>
      intro i c h hc
      apply z1h_le
      simp only [ltB_end h, cond_false, sats, Nat.add_zero]
      rfl
    | cons y suf ihs =>
      intro i c h hc
      apply z1h_le
      have hlt := lt_drop h
      have hy : y ∈ t.Inner := by
        have : y ∈ t.Inner.drop i := by rw [h]; exact List.mem_cons_self
        exact List.mem_of_mem_drop this
      simp only [ltB_drop h, cond_true, nth_drop h, ih y hy (ht.mem hy), Option.bind_some, next_nat (show i < 4611686018427387904 by omega), next_nat (show c < 4611686018427387904 by omega)]
      cases hsy : sat s y with
      | true =>
        simp only [cond_true]
        rw [ihs (i + 1) (c + 1) (drop_next h) (by omega)]
        simp only [sats, hsy, if_true]
        congr 3; omega
      | false =>
        simp only [cond_false]
        rw [ihs (i + 1) c (drop_next h) (by omega)]
        simp only [sats, hsy, Bool.false_eq_true, if_false, Nat.zero_add]
  apply z2a_le
  simp only [nodeset_Valid_ok hs, Option.bind_some, Bool.not_true, cond_false]
  apply psatisfied_l1 hs t.Nodes (by omega) t.Threshold t.Nodes t.Inner t.Nodes 0 0 rfl (Nat.le_refl _)
  rw [show (0 : Int) = ((0 : Nat) : Int) from rfl, l2 t.Inner 0 _ rfl (by have : cnt s t.Nodes ≤ t.Nodes.length := List.countP_le_length; omega)]
  rw [sat_eq, Nat.zero_add]
theorem psize_ok : ∀ t : Trust, Small t → z38 t = some ((size t : Nat) : Int) := by
  apply Trust.ind
  intro t ih ht
  have hn := ht.nodes
  have hi := ht.inner
  have hs : size t < 1152921504606846976 := ht
  have l1 : ∀ (suf : List Trust) (i c : Nat), t.Inner.drop i = suf → c + sizes suf = size t → z28 (c : Int) t.Inner ((t.Inner.length : Nat) : Int) (i : Int) t.Threshold t.Nodes t.Inner = some ((size t : Nat) : Int) := by
    intro suf
    induction suf with
    | nil =>
      intro i c h hc
      apply z28_le
      simp only [ltB_end h, cond_false]
      simp only [sizes, Nat.add_zero] at hc
      rw [hc]
    | cons y suf ihs =>
      intro i c h hc
      apply z28_le
      have hlt := lt_drop h
      have hy : y ∈ t.Inner := List.mem_of_mem_drop (by rw [h]; exact List.mem_cons_self)
      simp only [sizes] at hc
      simp only [ltB_drop h, cond_true, nth_drop h, ih y hy (ht.mem hy), Option.bind_some, next_nat (show i < 4611686018427387904 by omega)]
      rw [addI64 (by omega) (by omega)]
      exact ihs (i + 1) (c + size y) (drop_next h) (by omega)
  apply z38_le
  rw [addI64 (by omega) (by omega)]
  have h1 := size_eq t
  exact l1 t.Inner 0 (t.Nodes.length + t.Inner.length) rfl (by omega)
theorem pdepth_ok : ∀ t : Trust, Small t → z2x t = some ((depth t : Nat) : Int) := by
  apply Trust.ind
  intro t ih ht
  have hi := ht.inner
  have hd := depth_le_size t
  have hs : size t < 1152921504606846976 := ht
  have l1 : ∀ (suf : List Trust) (i c : Nat), t.Inner.drop i = suf → max c (depths suf) = depths t.Inner → z23 (c : Int) t.Inner ((t.Inner.length : Nat) : Int) (i : Int) t.Threshold t.Nodes t.Inner = some ((depth t : Nat) : Int) := by
    intro suf
    induction suf with
    | nil =>
      intro i c h hc
      apply z23_le
      simp only [ltB_end h, cond_false]
      simp only [depths, Nat.max_zero] at hc
      rw [depth_eq] at hd ⊢
      rw [hc, next_nat (by omega)]
    | cons y suf ihs =>
      intro i c h hc
      apply z23_le
      have hlt := lt_drop h
      have hy : y ∈ t.Inner := List.mem_of_mem_drop (by rw [h]; exact List.mem_cons_self)
      simp only [depths] at hc
      simp only [ltB_drop h, cond_true, nth_drop h, ih y hy (ht.mem hy), Option.bind_some, next_nat (show i < 4611686018427387904 by omega)]
      have : (if ((depth y : Nat) : Int) > (c : Int) then ((depth y : Nat) : Int) else (c : Int)) = ((max c (depth y) : Nat) : Int) := by split <;> omega
      rw [this]
      exact ihs (i + 1) (max c (depth y)) (drop_next h) (by omega)
  apply z2x_le
  exact l1 t.Inner 0 0 rfl (by omega)
theorem pnodes_l1 {s : Nat} (hs : s < 1024) : ∀ (n i : Nat) (acc : List Int), i + n = 10 → acc.length ≤ i → z26 (s : Int) acc (i : Int) = some (acc ++ (nodesFrom s n i).map Int.ofNat)
  | 0, i, acc, h, ha => by
    apply z26_le
    rw [ltB_false (by omega)]
    simp [nodesFrom]
  | n + 1, i, acc, h, ha => by
    apply z26_le
    rw [ltB_true (by omega)]
    simp only [cond_true, nodeset_Has_ok hs, Option.bind_some, has_nat (show i < 10 by omega), next_nat (show i < 4611686018427387904 by omega), nodesFrom]
    cases hb : s.testBit i with
    | true =>
      simp only [cond_true, if_true]
      rw [capOk_true (by simp [maxElems]; omega), pnodes_l1 hs n (i + 1) _ (by omega) (by simp; omega)]
      simp
    | false =>
      simp only [cond_false, Bool.false_eq_true, if_false]
      rw [pnodes_l1 hs n (i + 1) _ (by omega) (by omega)]
theorem pnodes_ok {s : Nat} (hs : s < 1024) : z3q (s : Int) = some ((nodes s).map Int.ofNat) := by
  apply z3q_le
  rw [show (0 : Int) = ((0 : Nat) : Int) from rfl, pnodes_l1 hs 10 0 [] rfl (by simp)]
  rfl
theorem pdeclared_l1 (l a8 : List Member) (hl : l.length < 1152921504606846976) : ∀ (suf : List Member) (i s : Nat), l.drop i = suf → s < 1024 → z1e (s : Int) l ((l.length : Nat) : Int) (i : Int) a8 = some ((s ||| declFrom i suf : Nat) : Int)
  | [], i, s, h, hs => by
    apply z1e_le
    simp only [ltB_end h, cond_false, declFrom, Nat.or_zero]
  | m :: suf, i, s, h, hs => by
    have hlt := lt_drop h
    apply z1e_le
    simp only [ltB_drop h, cond_true, nth_drop h, next_nat (show i < 4611686018427387904 by omega), declFrom]
    by_cases hi : i < 10
    · have hp : 2 ^ i < 1024 := Nat.pow_lt_pow_right (a := 2) (by decide) hi
      rw [ltB_true (by omega)]
      cases hd : m.Declared with
      | true =>
        simp only [cond_true]
        rw [chk_true (by omega), shl1 (by omega) (by omega), Int.toNat_natCast, orI_nat (by omega) (by omega), pdeclared_l1 l a8 hl suf (i + 1) _ (drop_next h) (Nat.or_lt_two_pow (n := 10) hs hp)]
        simp only [decide_eq_true hi, Bool.and_self, if_true, Nat.or_assoc]
      | false =>
        simp only [cond_true, cond_false]
        rw [pdeclared_l1 l a8 hl suf (i + 1) _ (drop_next h) hs]
        simp
    · rw [ltB_false (by omega)]
      simp only [cond_false]
      rw [pdeclared_l1 l a8 hl suf (i + 1) _ (drop_next h) hs]
      simp [hi]
theorem pdeclared_ok (c : Config) (h : c.Members.length < 1152921504606846976) : z1x c = some ((decl c : Nat) : Int) := by
  apply z1x_le
  rw [show (0 : Int) = ((0 : Nat) : Int) from rfl, pdeclared_l1 c.Members c.Members h c.Members 0 0 rfl (by decide), Nat.zero_or]
  rfl
theorem pnode_ok (k : Int) : z3b k = some (inR k) := by
  apply z3b_le
  unfold inR
  by_cases h0 : 0 ≤ k
  · by_cases h1 : k < 10
    · simp [leB_true h0, ltB_true h1, h0, h1]
    · simp [leB_true h0, ltB_false (Int.not_lt.1 h1), h0, h1]
  · simp [leB_false (Int.not_le.1 h0), h0]
theorem puses_l1 (xs : List Int) (hl : xs.length < 1152921504606846976) (a9 : Int) (a11 : List Int) (a13 : List Trust) : ∀ (suf : List Int) (i c : Nat), xs.drop i = suf → c < 1024 →
    Le (z20 ((c ||| usesN suf : Nat) : Int) a13 ((a13.length : Nat) : Int) 0 a9 a11 a13) (z1y (c : Int) xs ((xs.length : Nat) : Int) (i : Int) a9 a11 a13)
  | [], i, c, h, hc => fun r hr => by
    apply z1y_le
    simp only [ltB_end h, cond_false]
    simpa [usesN] using hr
  | y :: suf, i, c, h, hc => fun r hr => by
    have hlt := lt_drop h
    apply z1y_le
    simp only [ltB_drop h, cond_true, nth_drop h, next_nat (show i < 4611686018427387904 by omega), pnode_ok, Option.bind_some]
    cases hy : inR y with
    | true =>
      have hy' := hy
      simp only [inR, Bool.and_eq_true, decide_eq_true_eq] at hy'
      have hb := bit_lt hy
      simp only [cond_true, chk_true hy'.1, shl_bit hy, orI_nat (show c < 2 ^ 62 by omega) (show bit y < 2 ^ 62 by omega)]
      refine puses_l1 xs hl a9 a11 a13 suf (i + 1) (c ||| bit y) (drop_next h) (Nat.or_lt_two_pow (n := 10) hc hb) r ?_
      rw [← hr]; congr 2
      simp only [usesN, hy, if_true, Nat.or_assoc]
    | false =>
      simp only [cond_false]
      refine puses_l1 xs hl a9 a11 a13 suf (i + 1) c (drop_next h) hc r ?_
      rw [← hr]; congr 2
      simp [usesN, hy]
theorem puses_ok : ∀ t : Trust, Small t → z37 t = some ((uses t : Nat) : Int) := by
  apply Trust.ind
  intro t ih ht
  have hn := ht.nodes
  have hi := ht.inner
  have l2 : ∀ (suf : List Trust) (i c : Nat), t.Inner.drop i = suf → c < 1024 → z20 (c : Int) t.Inner ((t.Inner.length : Nat) : Int) (i : Int) t.Threshold t.Nodes t.Inner = some ((c ||| usesL suf : Nat) : Int) := by
    intro suf
    induction suf with
    | nil =>
      intro i c h hc
      apply z20_le
      simp only [ltB_end h, cond_false, usesL, Nat.or_zero]
    | cons y suf ihs =>
      intro i c h hc
      have hlt := lt_drop h
      have hy : y ∈ t.Inner := List.mem_of_mem_drop (by rw [h]; exact List.mem_cons_self)
      have hu := uses_lt y
      apply z20_le
      simp only [ltB_drop h, cond_true, nth_drop h, ih y hy (ht.mem hy), Option.bind_some, next_nat (show i < 4611686018427387904 by omega), orI_nat (show c < 2 ^ 62 by omega) (show uses y < 2 ^ 62 by omega)]
      rw [ihs (i + 1) (c ||| uses y) (drop_next h) (Nat.or_lt_two_pow (n := 10) hc hu)]
      simp only [usesL, Nat.or_assoc]
  apply z37_le
  refine puses_l1 t.Nodes (by omega) _ _ _ t.Nodes 0 0 rfl (by decide) _ ?_
  rw [show (0 : Int) = ((0 : Nat) : Int) from rfl, l2 t.Inner 0 _ rfl (Nat.or_lt_two_pow (n := 10) (by decide) (usesN_lt _)), Nat.zero_or, uses_eq]
end Go.Proofs.Ytfjcndlhpfbcgaa
