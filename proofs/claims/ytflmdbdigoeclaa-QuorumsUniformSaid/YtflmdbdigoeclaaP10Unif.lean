/- QuorumsUniform: the law, on the machine. -/
import Derived.Test.YtflmdbdigoeclaaP10Uni
import Derived.Test.YtflmdbdigoeclaaP10Awake
namespace Go.Proofs.Ytflmdbdigoeclaa
open Go Go.Ab
def ints' (n : Nat) : List Int := (List.range n).map Int.ofNat
def flat (n k : Nat) : Trust := ⟨(k : Int), ints' n, []⟩
theorem ints_succ (n : Nat) : ints' (n + 1) = ints' n ++ [(n : Int)] := by simp [ints', List.range_succ]
theorem ints_len (n : Nat) : (ints' n).length = n := by simp [ints']
theorem same_l3 {n k : Nat} (hn : n ≤ 10) (ms : List Member) : ∀ (j i : Nat), i + j = n →
    law10_same_l3 (n : Int) (i : Int) ms (k : Int) (ints' n) [] (List.replicate i ⟨true, flat n k⟩) = some (uni n (flat n k))
  | 0, i, h => by
    have : i = n := by omega
    subst this
    apply law10_same_l3_le
    rw [ltB_false (by omega)]; rfl
  | j + 1, i, h => by
    have ih := same_l3 (k := k) hn ms j (i + 1) (by omega)
    rw [List.replicate_succ'] at ih
    apply law10_same_l3_le
    rw [ltB_true (by omega), capOk_true (by simp [maxElems]; omega), next_nat (by omega)]
    exact ih
theorem same_l1 {n k : Nat} (h1 : 1 ≤ n) (hn : n ≤ 10) : ∀ (j i : Nat), i + j = n →
    law10_same_l1 (n : Int) (i : Int) [] (k : Int) (ints' i) [] = some (uni n (flat n k))
  | 0, i, h => by
    have : i = n := by omega
    subst this
    apply law10_same_l1_le
    rw [ltB_false (by omega)]
    simp only [cond_false]
    apply law10_same_l2_le
    rw [ltB_true (by omega), capOk_true (by simp [maxElems]), show (0 : Int) = ((0 : Nat) : Int) from rfl, next_nat (by omega)]
    exact same_l3 hn [] (i - 1) 1 (by omega)
  | j + 1, i, h => by
    have ih := same_l1 (k := k) h1 hn j (i + 1) (by omega)
    rw [ints_succ] at ih
    have := ints_len i
    apply law10_same_l1_le
    rw [ltB_true (by omega), capOk_true (by simp [maxElems]; omega), next_nat (by omega)]
    exact ih
theorem usame_ok {n k : Nat} (h1 : 1 ≤ n) (hn : n ≤ 10) : law10_same (n : Int) (k : Int) = some (uni n (flat n k)) := by
  apply law10_same_le
  exact same_l1 h1 hn n 0 (by omega)
theorem flat_mem {n : Nat} : ∀ x ∈ ints' n, 0 ≤ x ∧ x < (n : Int) := fun x hx => by
  obtain ⟨i, hi, rfl⟩ := List.mem_map.1 hx
  have := List.mem_range.1 hi
  simp; omega
theorem flat_asc (n : Nat) : (ints' n).Pairwise (· < ·) := by
  unfold ints'
  rw [List.pairwise_map]
  exact (List.pairwise_lt_range).imp fun h => by simpa using h
theorem flat_valid {n k : Nat} (hn : n ≤ 10) (h1 : 1 ≤ k) (hk : k ≤ n) : valid (flat n k) = true :=
  valid_flat (m := (n : Int)) (by omega) (by omega) flat_mem (flat_asc n) (by omega) (by rw [ints_len]; omega)
theorem flat_below (n k : Nat) : below (n : Int) (flat n k) = true := below_mk flat_mem rfl
theorem flat_uses {n k : Nat} (hn : n ≤ 10) : uses (flat n k) = 2 ^ n - 1 := by
  have hlt := uses_below (flat n k) (flat_below n k)
  apply Nat.eq_of_testBit_eq
  intro i
  rw [Nat.testBit_two_pow_sub_one]
  by_cases h : i < n
  · have h1 : (i : Int) ∈ ints' n := List.mem_map.2 ⟨i, List.mem_range.2 h, rfl⟩
    have h2 := usesN_has h1 (by simp [inR]; omega)
    rw [has_nat (by omega)] at h2
    rw [decide_eq_true h, uses_eq]
    simp [flat, usesL, h2]
  · rw [decide_eq_false h]
    cases hb : (uses (flat n k)).testBit i with
    | false => rfl
    | true =>
      have := Nat.ge_two_pow_of_testBit hb
      have := Nat.pow_le_pow_right (n := 2) (by decide) (Nat.le_of_not_lt h)
      omega
theorem pcn (s : Nat) : ∀ m i, (nodesFrom s m i).length = (List.range' i m).countP fun k => s.testBit k
  | 0, i => rfl
  | m + 1, i => by
    rw [pc_succ_aux, pcn s m (i + 1), List.range'_succ, List.countP_cons]
    omega
theorem pc_cnt {n s : Nat} (hn : n ≤ 10) (hs : s < 2 ^ n) : cnt s (ints' n) = pc s := by
  have h1 : cnt s (ints' n) = (List.range' 0 n).countP fun k => s.testBit k := by
    unfold cnt ints'
    rw [List.countP_map, List.range_eq_range']
    apply List.countP_congr
    intro k hk
    have hk' : k < n := by have := List.mem_range'_1.1 hk; omega
    simp only [Function.comp]
    rw [show Int.ofNat k = (k : Int) from rfl, has_nat (by omega)]
  have h2 : pc s = (List.range' 0 10).countP fun k => s.testBit k := pcn s 10 0
  have h3 : (List.range' 0 10 : List Nat) = List.range' 0 n ++ List.range' n (10 - n) := by
    have := @List.range'_append_1 0 n (10 - n)
    rw [Nat.zero_add] at this
    rw [this, show n + (10 - n) = 10 by omega]
  have h4 : (List.range' n (10 - n)).countP (fun k => s.testBit k) = 0 := by
    rw [List.countP_eq_zero]
    intro k hk hb
    have hk' := (List.mem_range'_1.1 hk).1
    have := Nat.ge_two_pow_of_testBit hb
    have := Nat.pow_le_pow_right (n := 2) (by decide) hk'
    omega
  rw [h1, h2, h3, List.countP_append, h4]; rfl
theorem flat_sat {n k : Nat} (hn : n ≤ 10) {s : Nat} (hs : s < 2 ^ n) : sat s (flat n k) = decide (k ≤ pc s) := by
  rw [sat_eq, show (flat n k).Nodes = ints' n from rfl, pc_cnt hn hs]
  show decide ((k : Int) ≤ ((pc s + 0 : Nat) : Int)) = _
  congr 1
  simp
theorem pc_or_le {s k : Nat} : ∀ m i, (nodesFrom (s ||| 2 ^ k) m i).length ≤ (nodesFrom s m i).length + (if i ≤ k ∧ k < i + m then 1 else 0)
  | 0, i => by simp [nodesFrom]
  | m + 1, i => by
    rw [pc_succ_aux, pc_succ_aux]
    have := pc_or_le (s := s) (k := k) m (i + 1)
    by_cases h : k = i
    · subst h
      rw [if_neg (by omega)] at this
      rw [if_pos (show k ≤ k ∧ k < k + (m + 1) by omega)]
      split <;> split <;> omega
    · have hb : (s ||| 2 ^ k).testBit i = s.testBit i := by simp [Nat.testBit_or, h]
      rw [hb]
      by_cases h2 : i ≤ k ∧ k < i + (m + 1)
      · rw [if_pos (by omega)] at this
        rw [if_pos h2]; omega
      · rw [if_neg (by omega)] at this
        rw [if_neg h2]; omega
theorem pc_eq_of_sub {a b : Nat} (ha : a < 1024) (hb : b < 1024) (h : Sub a b) (he : pc a = pc b) : a = b := by
  obtain ⟨_, h2⟩ := pc_sub_aux h 10 0
  apply Nat.eq_of_testBit_eq
  intro i
  by_cases hi : i < 10
  · exact h2 he i (by omega) (by omega)
  · have : ∀ z : Nat, z < 1024 → z.testBit i = false := fun z hz => by
      cases hbz : z.testBit i with
      | false => rfl
      | true => exact absurd (bit_lt_of hz hbz) hi
    rw [this a ha, this b hb]
theorem pc_mono {a b : Nat} (h : Sub a b) : pc a ≤ pc b := (pc_sub_aux h 10 0).1
theorem least_flat {n k : Nat} (hn : n ≤ 10) (h1 : 1 ≤ k) {out : List Nat} (ho : LeastOf (pick (fun z => sat z (flat n k)) (2 ^ n)) out) (z : Nat) : z ∈ out ↔ z ∈ pick (fun z => decide (pc z = k)) (2 ^ n) := by
  have hp := pow10 hn
  rw [ho.2, mem_pick, decide_eq_true_eq]
  constructor
  · rintro ⟨hm, hmin⟩
    obtain ⟨hz, hs⟩ := mem_pick.1 hm
    rw [flat_sat hn hz, decide_eq_true_eq] at hs
    refine ⟨hz, ?_⟩
    refine Nat.le_antisymm (Nat.le_of_not_lt fun hlt => ?_) hs
    have h0 : z ≠ 0 := fun e => by subst e; have : pc 0 = 0 := by decide
                                   omega
    obtain ⟨i, hi⟩ := bne_zero h0
    have hi10 := bit_lt_of (show z < 1024 by omega) hi
    obtain ⟨q1, q2⟩ := sub_pow hi
    have he : z = (z - 2 ^ i) ||| 2 ^ i := by
      apply Nat.eq_of_testBit_eq
      intro j
      rw [Nat.testBit_or, testBit_sub_pow hi, testBit_pow]
      by_cases hj : i = j
      · subst hj; simp [hi]
      · have : j ≠ i := fun e => hj e.symm
        simp [hj, this]
    have h3 : pc z ≤ pc (z - 2 ^ i) + 1 := by
      have := pc_or_le (s := z - 2 ^ i) (k := i) 10 0
      rw [← he, if_pos (by omega)] at this
      exact this
    have := hmin (z - 2 ^ i) (mem_pick.2 ⟨by omega, by rw [flat_sat hn (by omega), decide_eq_true_eq]; omega⟩) q2
    omega
  · rintro ⟨hz, hk⟩
    refine ⟨mem_pick.2 ⟨hz, by rw [flat_sat hn hz, decide_eq_true_eq]; omega⟩, fun t ht hts => ?_⟩
    obtain ⟨ht1, ht2⟩ := mem_pick.1 ht
    rw [flat_sat hn ht1, decide_eq_true_eq] at ht2
    have := pc_mono hts
    exact pc_eq_of_sub (by omega) (by omega) hts (by omega)
theorem least_flat_len {n k : Nat} (hn : n ≤ 10) (h1 : 1 ≤ k) {out : List Nat} (ho : LeastOf (pick (fun z => sat z (flat n k)) (2 ^ n)) out) : out.length = (pick (fun z => decide (pc z = k)) (2 ^ n)).length := by
  apply List.Perm.length_eq
  have hnd : (pick (fun z => decide (pc z = k)) (2 ^ n)).Nodup := List.Pairwise.sublist List.filter_sublist List.nodup_range
  rw [List.perm_ext_iff_of_nodup (nodup_of_ord ho.1) hnd]
  exact least_flat hn h1 ho
section
variable {n k : Nat}
theorem ureach_l2 (hn : n ≤ 10) (h1 : 1 ≤ k) (hk : k ≤ n) {s : Nat} (hs : s < 2 ^ n) {l : List Nat} (hl : l.length ≤ 10) (hm : ∀ i ∈ l, i < n)
    (K : (bif (eqB ((2 ^ n - 1 : Nat) : Int) (s : Int)) then some (s : Int) else quorums_reached_l1 ((2 ^ n - 1 : Nat) : Int) ((2 ^ n - 1 : Nat) : Int) (uni n (flat n k)).Members) = some ((2 ^ n - 1 : Nat) : Int)) : ∀ (suf : List Nat) (i cur : Nat), l.drop i = suf → (cur = 2 ^ n - 1 ∨ (cur = s ∧ suf ≠ [])) →
    quorums_reached_l2 ((2 ^ n - 1 : Nat) : Int) (s : Int) (cur : Int) (l.map Int.ofNat) ((l.length : Nat) : Int) (i : Int) (uni n (flat n k)).Members = some ((2 ^ n - 1 : Nat) : Int)
  | [], i, cur, h, hc => by
    have hcur : cur = 2 ^ n - 1 := hc.elim id fun h => absurd rfl h.2
    subst hcur
    apply quorums_reached_l2_le
    rw [ltB_end h]
    exact K
  | y :: suf, i, cur, h, hc => by
    have hlt := lt_drop h
    have hp := pow10 hn
    have hy := hm y (List.mem_of_mem_drop (by rw [h]; simp))
    have hcl : cur < 2 ^ n := by
      have := Nat.two_pow_pos n
      rcases hc with hc | hc <;> omega
    have hor : cur ||| (2 ^ n - 1) = 2 ^ n - 1 := by
      apply Nat.eq_of_testBit_eq
      intro j
      rw [Nat.testBit_or, Nat.testBit_two_pow_sub_one]
      by_cases hj : j < n
      · simp [hj]
      · cases hb : cur.testBit j with
        | false => simp
        | true =>
          have := Nat.ge_two_pow_of_testBit hb
          have := Nat.pow_le_pow_right (n := 2) (by decide) (Nat.le_of_not_lt hj)
          omega
    have ih := ureach_l2 hn h1 hk hs hl hm K suf (i + 1) (2 ^ n - 1) (drop_next h) (.inl rfl)
    have hsmall : Small (flat n k) := valid_small (flat_valid hn h1 hk)
    apply quorums_reached_l2_le
    rw [ltB_drop h]
    simp only [cond_true, nth_drop (map_drop_cons h)]
    rw [nth_get (y := Member.mk true (flat n k)) (by omega) (by rw [Int.toNat_natCast]; exact uni_get hy), puses_ok _ hsmall, flat_uses hn]
    simp only [Option.bind_some]
    rw [andI_nat (by omega) (by omega), Nat.and_self, orI_nat (by omega) (by omega), hor, next_nat (by omega)]
    exact ih
theorem full_nodes (_hn : n ≤ 10) : ∀ i ∈ nodes (2 ^ n - 1), i < n := fun i hi => by
  have := (mem_nodes.1 hi).1
  rw [Nat.testBit_two_pow_sub_one, decide_eq_true_eq] at this
  exact this
theorem ureach_full (hn : n ≤ 10) (h1 : 1 ≤ k) (hk : k ≤ n) : quorums_reached_l1 ((2 ^ n - 1 : Nat) : Int) ((2 ^ n - 1 : Nat) : Int) (uni n (flat n k)).Members = some ((2 ^ n - 1 : Nat) : Int) := by
  have hp := pow10 hn
  have hpos := Nat.two_pow_pos n
  apply quorums_reached_l1_le
  rw [pnodes_ok (s := 2 ^ n - 1) (by omega)]
  simp only [Option.bind_some, List.length_map]
  exact ureach_l2 hn h1 hk (by omega) (nodes_len _) (full_nodes hn) (by rw [eqB_self]; rfl) _ 0 (2 ^ n - 1) rfl (.inl rfl)
theorem ureach_ok (hn : n ≤ 10) (h1 : 1 ≤ k) (hk : k ≤ n) {j : Nat} (hj : j < n) : quorums_reached (uni n (flat n k)) (j : Int) = some ((2 ^ n - 1 : Nat) : Int) := by
  have hp := pow10 hn
  have hpos := Nat.two_pow_pos n
  have hjn : 2 ^ j < 2 ^ n := Nat.pow_lt_pow_right (a := 2) (by decide) hj
  have hsm := uni_small hn (valid_small (flat_valid hn h1 hk))
  apply quorums_reached_le
  rw [pdeclared_ok _ hsm.1, uni_decl hn]
  simp only [Option.bind_some]
  rw [chk_true (by omega), shl1 (by omega) (by omega), Int.toNat_natCast]
  apply quorums_reached_l1_le
  rw [pnodes_ok (s := 2 ^ j) (by omega)]
  simp only [Option.bind_some, List.length_map]
  refine ureach_l2 hn h1 hk hjn (nodes_len _) (fun i hi => ?_) ?_ _ 0 (2 ^ j) rfl (.inr ⟨rfl, fun e => ?_⟩)
  · have := (mem_nodes.1 hi).1
    rw [testBit_pow, decide_eq_true_eq] at this
    omega
  · by_cases he : 2 ^ n - 1 = 2 ^ j
    · rw [he, eqB_self]; rfl
    · rw [eqB_ne (by omega)]
      exact ureach_full hn h1 hk
  · have : j ∈ nodes (2 ^ j) := mem_nodes.2 ⟨by rw [testBit_pow]; simp, by omega⟩
    rw [show nodes (2 ^ j) = [] from e] at this
    cases this
theorem uparts_l3 (hn : n ≤ 10) (h1 : 1 ≤ n) {ms : List Member} {l : List Nat} (hl : l.length ≤ 10) (hm : ∀ i ∈ l, i < n) {r : List Int × Int}
    (K : quorums_Parts_l2 (List.replicate n ((2 ^ n - 1 : Nat) : Int)) [((l.foldl (fun a i => a ||| 2 ^ i) 0 : Nat) : Int)] ((l.foldl (fun a i => a ||| 2 ^ i) 0 : Nat) : Int) (n : Int) 1 ms = some r) : ∀ (suf pre : List Nat), l = pre ++ suf →
    quorums_Parts_l3 (List.replicate n ((2 ^ n - 1 : Nat) : Int)) [] 0 0 ((pre.foldl (fun a i => a ||| 2 ^ i) 0 : Nat) : Int) (n : Int) 0 (l.map Int.ofNat) ((l.length : Nat) : Int) ((pre.length : Nat) : Int) ms = some r
  | [], pre, e => by
    have hd := drop_pre e
    rw [List.append_nil] at e
    rw [← e] at *
    have hlt : (l.foldl (fun a i => a ||| 2 ^ i) 0) < 1024 := by
      have : ∀ (q : List Nat) (a : Nat), (∀ i ∈ q, i < n) → a < 1024 → q.foldl (fun a i => a ||| 2 ^ i) a < 1024 := by
        intro q
        induction q with
        | nil => intro a _ ha; exact ha
        | cons y r ih => intro a hq ha; exact ih _ (fun i hi => hq i (by simp [hi])) (or_lt ha (pow_lt' (by have := hq y (by simp); omega)))
      exact this l 0 hm (by decide)
    apply quorums_Parts_l3_le
    rw [ltB_end hd, capOk_true (by simp [maxElems])]
    simp only [cond_false, List.nil_append]
    rw [show (0 : Int) = ((0 : Nat) : Int) from rfl, orI_nat (by omega) (by omega), Nat.zero_or, next_nat (by omega)]
    exact K
  | y :: suf, pre, e => by
    have hd := drop_pre e
    have hlt := lt_drop hd
    have hp := pow10 hn
    have hy := hm y (by rw [e]; simp)
    have hpre : ∀ i ∈ pre, i < n := fun i hi => hm i (by rw [e]; simp [hi])
    have hfl : ∀ (q : List Nat) (a : Nat), (∀ i ∈ q, i < n) → a < 1024 → q.foldl (fun a i => a ||| 2 ^ i) a < 1024 := by
      intro q
      induction q with
      | nil => intro a _ ha; exact ha
      | cons y r ih => intro a hq ha; exact ih _ (fun i hi => hq i (by simp [hi])) (or_lt ha (pow_lt' (by have := hq y (by simp); omega)))
    have h0 := hfl pre 0 hpre (by decide)
    have hpy := pow_lt' (show y < 10 by omega)
    have ih := uparts_l3 hn h1 hl hm K suf (pre ++ [y]) (by rw [e]; simp)
    rw [show (pre ++ [y]).length = pre.length + 1 by simp, List.foldl_append] at ih
    have hg : (List.replicate n ((2 ^ n - 1 : Nat) : Int))[y]? = some ((2 ^ n - 1 : Nat) : Int) := by rw [List.getElem?_replicate, if_pos hy]
    apply quorums_Parts_l3_le
    rw [ltB_drop hd]
    simp only [cond_true, nth_drop (map_drop_cons hd), Int.toNat_natCast]
    rw [nth_get (by omega) (by rw [Int.toNat_natCast]; exact hg), nthN_get hg]
    rw [nodeset_Has_ok (s := 2 ^ n - 1) (by have := Nat.two_pow_pos n; omega), show (0 : Int) = ((0 : Nat) : Int) from rfl, has_nat (k := 0) (by decide), Nat.testBit_two_pow_sub_one, decide_eq_true (show 0 < n by omega)]
    simp only [Option.bind_some, cond_true]
    rw [chk_true (by omega), shl1 (by omega) (by omega), Int.toNat_natCast, orI_nat (by omega) (by omega), next_nat (by omega)]
    exact ih
theorem fold_bit : ∀ (q : List Nat) (a i : Nat), (q.foldl (fun a i => a ||| 2 ^ i) a).testBit i = (a.testBit i || decide (i ∈ q))
  | [], a, i => by simp
  | y :: r, a, i => by
    simp only [List.foldl_cons]
    rw [fold_bit r, Nat.testBit_or, testBit_pow]
    by_cases h : y = i
    · subst h; simp
    · have : ¬ i = y := fun e => h e.symm
      simp [h, this]
theorem fold_full (hn : n ≤ 10) : (nodes (2 ^ n - 1)).foldl (fun a i => a ||| 2 ^ i) 0 = 2 ^ n - 1 := by
  apply Nat.eq_of_testBit_eq
  intro i
  rw [fold_bit, Nat.testBit_two_pow_sub_one, Nat.zero_testBit, Bool.false_or, Bool.eq_iff_iff, decide_eq_true_eq, decide_eq_true_eq, mem_nodes, Nat.testBit_two_pow_sub_one, decide_eq_true_eq]
  omega
theorem uparts_l2 (hn : n ≤ 10) {ms : List Member} {acc : List Int} : ∀ (j i : Nat), i + j = n →
    quorums_Parts_l2 (List.replicate n ((2 ^ n - 1 : Nat) : Int)) acc ((2 ^ n - 1 : Nat) : Int) (n : Int) (i : Int) ms = some (acc, 0)
  | 0, i, h => by
    apply quorums_Parts_l2_le
    rw [ltB_false (by omega)]; rfl
  | j + 1, i, h => by
    have hp := pow10 hn
    have hpi := pow_lt' (show i < 10 by omega)
    have ih := uparts_l2 hn (ms := ms) (acc := acc) j (i + 1) (by omega)
    have hg : (List.replicate n ((2 ^ n - 1 : Nat) : Int))[i]? = some ((2 ^ n - 1 : Nat) : Int) := by rw [List.getElem?_replicate, if_pos (by omega)]
    have hne : (2 ^ n - 1) &&& 2 ^ i ≠ 0 := fun e => by
      have := congrArg (fun x => Nat.testBit x i) e
      simp only [Nat.testBit_and, Nat.testBit_two_pow_sub_one, testBit_pow, Nat.zero_testBit] at this
      rw [decide_eq_true (show i < n by omega)] at this
      simp at this
    apply quorums_Parts_l2_le
    rw [ltB_true (by omega)]
    simp only [cond_true, Int.toNat_natCast]
    rw [nth_get (by omega) (by rw [Int.toNat_natCast]; exact hg), nthN_get hg, chk_true (by omega), shl1 (by omega) (by omega), Int.toNat_natCast, andI_nat (by omega) (by omega), neB_ne (by omega), next_nat (by omega)]
    exact ih
theorem uparts_l1 (hn : n ≤ 10) (h1 : 1 ≤ k) (hk : k ≤ n) {r : List Int × Int} {l : List Nat} (hl : l.length ≤ 10) (hm : ∀ i ∈ l, i < n) (hall : ∀ i, i < n → i ∈ l)
    (K : quorums_Parts_l2 (List.replicate n ((2 ^ n - 1 : Nat) : Int)) [] 0 (n : Int) 0 (uni n (flat n k)).Members = some r) : ∀ (suf pre : List Nat) (R : List Int), l = pre ++ suf → R.length = n → (∀ i ∈ pre, R[i]? = some ((2 ^ n - 1 : Nat) : Int)) →
    quorums_Parts_l1 R (l.map Int.ofNat) ((l.length : Nat) : Int) ((pre.length : Nat) : Int) (uni n (flat n k)).Members = some r
  | [], pre, R, e, hR, hp => by
    have hd := drop_pre e
    rw [List.append_nil] at e
    have hRe : R = List.replicate n ((2 ^ n - 1 : Nat) : Int) := by
      apply List.ext_getElem?
      intro i
      rw [List.getElem?_replicate]
      by_cases hi : i < n
      · rw [if_pos hi]; exact hp i (by rw [← e]; exact hall i hi)
      · rw [if_neg hi]; exact List.getElem?_eq_none (by omega)
    apply quorums_Parts_l1_le
    rw [ltB_end hd, hR, hRe]
    exact K
  | y :: suf, pre, R, e, hR, hp => by
    have hd := drop_pre e
    have hlt := lt_drop hd
    have hy := hm y (by rw [e]; simp)
    have hyR : y < R.length := by omega
    have hg : R[y]? = some R[y] := List.getElem?_eq_getElem hyR
    have ih := uparts_l1 hn h1 hk hl hm hall K suf (pre ++ [y]) (R.set y ((2 ^ n - 1 : Nat) : Int)) (by rw [e]; simp) (by rw [List.length_set]; exact hR) (fun i hi => by
      rw [List.getElem?_set]
      by_cases hyi : y = i
      · rw [if_pos hyi, if_pos (by omega)]
      · rw [if_neg hyi]
        rcases List.mem_append.1 hi with hi | hi
        · exact hp i hi
        · rw [List.mem_singleton] at hi; exact absurd hi.symm hyi)
    rw [show (pre ++ [y]).length = pre.length + 1 by simp] at ih
    apply quorums_Parts_l1_le
    rw [ltB_drop hd]
    simp only [cond_true, nth_drop (map_drop_cons hd), Int.toNat_natCast]
    rw [show Config.mk (uni n (flat n k)).Members = uni n (flat n k) from rfl, ureach_ok hn h1 hk hy]
    simp only [Option.bind_some]
    rw [nth_get (by omega) (by rw [Int.toNat_natCast]; exact hg), nthN_get hg, next_nat (by omega)]
    exact ih
theorem uparts_ok (hn : n ≤ 10) (h1 : 1 ≤ k) (hk : k ≤ n) : quorums_Parts (uni n (flat n k)) = some ([((2 ^ n - 1 : Nat) : Int)], 0) := by
  have hp := pow10 hn
  have hpos := Nat.two_pow_pos n
  have hv := flat_valid hn h1 hk
  have hsm := uni_small hn (valid_small hv)
  have hl := nodes_len (2 ^ n - 1)
  apply quorums_Parts_le
  rw [pcerr_ok hsm, uni_valid hn hv (uses_below _ (flat_below n k))]
  simp only [Option.bind_some, neB_self, cond_false]
  rw [uni_len, chk_true ⟨trivial, by omega, by omega⟩, pdeclared_ok _ hsm.1, uni_decl hn]
  simp only [Option.bind_some]
  rw [pnodes_ok (s := 2 ^ n - 1) (by omega)]
  simp only [Option.bind_some, Int.toNat_natCast, List.length_map]
  refine uparts_l1 hn h1 hk hl (full_nodes hn) (fun i hi => mem_nodes.2 ⟨by rw [Nat.testBit_two_pow_sub_one]; exact decide_eq_true hi, by omega⟩) ?_ (nodes (2 ^ n - 1)) [] (List.replicate n 0) rfl List.length_replicate (by simp)
  have hg : (List.replicate n ((2 ^ n - 1 : Nat) : Int))[0]? = some ((2 ^ n - 1 : Nat) : Int) := by rw [List.getElem?_replicate, if_pos (by omega)]
  have hful : 1 ≤ 2 ^ n - 1 := by
    have : 2 ^ 1 ≤ 2 ^ n := Nat.pow_le_pow_right (n := 2) (by decide) (by omega)
    omega
  apply quorums_Parts_l2_le
  rw [ltB_true (by omega)]
  simp only [cond_true]
  rw [nth_get (by omega) (by simpa using hg), show (Int.toNat 0) = 0 from rfl, nthN_get hg, chk_true (by omega)]
  rw [show neB (andI .i64 0 (shlI .i64 1 0)) 0 = false by decide, eqB_ne (by omega)]
  simp only [cond_false]
  rw [pnodes_ok (s := 2 ^ n - 1) (by omega)]
  simp only [Option.bind_some, List.length_map]
  refine uparts_l3 hn (by omega) hl (full_nodes hn) ?_ (nodes (2 ^ n - 1)) [] rfl
  rw [fold_full hn]
  exact uparts_l2 hn (n - 1) 1 (by omega)
end
end Go.Proofs.Ytflmdbdigoeclaa
