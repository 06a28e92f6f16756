/- Any trust, any set: deletion and its reference agree; bent trusts and configurations; small ones. -/
import Derived.Test.YtfemjbmfpnpjfaaDoorR1Twice
namespace Go.Proofs.YtfemjbmfpnpjfaaDoor
open Go Go.Ab

/-! ### What is no set -/
theorem ref01_Valid_bad {s : Int} (h : s < 0 ∨ 1024 ≤ s) : ref01_Valid s = some false := by
  apply ref01_Valid_le
  by_cases h0 : 0 ≤ s
  · simp only [leB_true h0, cond_true]; rw [leB_false (by omega)]
  · simp only [leB_false (Int.not_le.1 h0), cond_false]
theorem nodeset_Valid_bad {s : Int} (h : s < 0 ∨ 1024 ≤ s) : nodeset_Valid s = some false := by
  apply nodeset_Valid_le
  have : nodeset_below s 10 = some false := by
    apply nodeset_below_le
    by_cases h0 : 0 ≤ s
    · simp only [leB_true h0, cond_true, chk_true (show (0 : Int) ≤ 10 by decide), shl1 (show (0 : Int) ≤ 10 by decide) (by decide)]
      rw [ltB_false]
      show ((2 ^ 10 : Nat) : Int) ≤ s
      omega
    · simp only [leB_false (Int.not_le.1 h0), cond_false]
  simp only [this, Option.bind_some]
theorem nodeset_Has_bad {s : Int} (h : s < 0 ∨ 1024 ≤ s) (k : Int) : nodeset_Has s k = some false := by
  apply nodeset_Has_le
  simp only [nodeset_Valid_bad h, Option.bind_some, cond_false]
theorem del_bad {s : Int} (h : s < 0 ∨ 1024 ≤ s) (t : Trust) (ht : Fits t) (k : Int) : deletion_Trust t k s = some t := by
  apply deletion_Trust_le
  simp only [nodeset_Valid_bad h, Option.bind_some, Bool.not_false, cond_true, copied_ok t ht, Trust.eta]
theorem ref_del_bad {s : Int} (h : s < 0 ∨ 1024 ≤ s) (t : Trust) (k : Int) : ref13_Trust t k s = some t := by
  apply ref13_Trust_le
  simp only [ref01_Valid_bad h, Option.bind_some, Bool.not_false, cond_true, Trust.eta]
theorem ref_delete_bad {s : Int} (h : s < 0 ∨ 1024 ≤ s) (c : Config) : ref13_Delete c s = some c := by
  apply ref13_Delete_le
  simp only [ref01_Valid_bad h, Option.bind_some, Bool.not_false, cond_true]
theorem delete_bad {s : Int} (h : s < 0 ∨ 1024 ≤ s) (c : Config) (hc : Bears c) : deletion_Delete c s = some c := by
  obtain ⟨hl, hb⟩ := hc
  have l1 : ∀ (suf : List Member) (i : Nat) (acc a10 a12 : List Member), c.Members.drop i = suf → acc.length ≤ i →
      deletion_Delete_l1 s c.Members ((c.Members.length : Nat) : Int) (i : Int) a10 a12 acc = some ⟨acc ++ suf⟩ := by
    intro suf
    induction suf with
    | nil =>
      intro i acc a10 a12 hd ha
      apply deletion_Delete_l1_le
      simp only [ltB_end hd, cond_false, List.append_nil]
    | cons y suf ihs =>
      intro i acc a10 a12 hd ha
      have hlt := lt_drop hd
      obtain ⟨hf, hw⟩ := hb y (List.mem_of_mem_drop (by rw [hd]; exact List.mem_cons_self))
      have step : deletion_Delete_l1 s c.Members ((c.Members.length : Nat) : Int) ((i + 1 : Nat) : Int) a10 a12 (acc ++ [y]) = some ⟨acc ++ y :: suf⟩ := by
        rw [ihs (i + 1) _ _ _ (drop_next hd) (by simp; omega)]
        simp
      apply deletion_Delete_l1_le
      simp only [ltB_drop hd, cond_true, nth_drop hd, nodeset_Has_bad h, Option.bind_some, next_nat (show i < 4611686018427387904 by omega), cond_false]
      cases hdc : y.Declared with
      | true =>
        simp only [cond_true, del_bad h y.Trust hf, Option.bind_some, Trust.eta]
        rw [capOk_true (by simp [maxElems]; omega), ← step]
        have : y = ⟨true, y.Trust⟩ := by cases y; simp only at hdc; rw [hdc]
        rw [← this]
      | false =>
        simp only [cond_false, copied_ok y.Trust hf, Option.bind_some, Trust.eta]
        rw [capOk_true (by simp [maxElems]; omega), ← step]
        have : y = ⟨false, y.Trust⟩ := by cases y; simp only at hdc; rw [hdc]
        rw [← this]
  apply deletion_Delete_le
  rw [show (0 : Int) = ((0 : Nat) : Int) from rfl, l1 c.Members 0 [] _ _ rfl (Nat.le_refl _)]
  rfl

/-! ### The reference -/
def low (c : Int) (n : Nat) : Int := if c ≤ 0 then c else max 0 (c - n)
theorem lower_ok {c : Int} (h : c < 9223372036854775808) : ref13_lower c = some (low c 1) := by
  apply ref13_lower_le
  unfold low
  by_cases h0 : c ≤ 0
  · simp only [leB_true h0, cond_true, if_pos h0]
  · simp only [leB_false (Int.not_le.1 h0), cond_false, if_neg h0]
    rw [subI64 (by omega) (by omega)]
    congr 1; omega
theorem low_low (c : Int) (m n : Nat) : low (low c m) n = low c (m + n) := by
  unfold low
  by_cases h : c ≤ 0
  · simp [h]
  · simp only [if_neg h]; split <;> omega
theorem low_lt {c : Int} (h : c < 9223372036854775808) (n : Nat) : low c n < 9223372036854775808 := by unfold low; split <;> omega
theorem low_zero (c : Int) : low c 0 = c := by unfold low; split <;> omega
def lessR (s : Nat) (t : Trust) : Trust := ⟨low t.Threshold (cnt s t.Nodes + gone s t.Inner), (less s t).Nodes, (less s t).Inner⟩
theorem lessR_zero (s : Nat) (t : Trust) : (lessR s t).Threshold ≤ 0 ↔ (less s t).Threshold = 0 := by
  rw [less_eq]; simp only [lessR, low]; split <;> omega
theorem lessR_eq {s : Nat} {t : Trust} (h : (less s t).Threshold ≠ 0) : lessR s t = less s t := by
  rw [less_eq] at h ⊢
  simp only [lessR, less_eq, low] at h ⊢
  congr 1
  split <;> omega

theorem refless_l1 {s : Nat} (hs : s < 1024) (xs : List Int) (hl : xs.length < 1073741824) (a11 : Int) (a13 : List Int) (a15 : List Trust) (a17 : Int) (a19 : List Int) (a21 a27 : List Trust) :
    ∀ (suf : List Int) (i : Nat) (c : Int) (acc : List Int), xs.drop i = suf → c < 9223372036854775808 → acc.length ≤ i →
    Le (ref13_less_l2 (s : Int) a15 ((a15.length : Nat) : Int) 0 a11 a13 a15 a17 a19 a21 (low c (cnt s suf)) (acc ++ suf.filter (fun k => !has s k)) a27) (ref13_less_l1 (s : Int) xs ((xs.length : Nat) : Int) (i : Int) a11 a13 a15 a17 a19 a21 c acc a27)
  | [], i, c, acc, h, h1, ha => fun r hr => by
    apply ref13_less_l1_le
    simp only [ltB_end h, cond_false]
    rw [← hr]; congr 1
    · simp [cnt, low_zero]
    · simp
  | y :: suf, i, c, acc, h, h1, ha => fun r hr => by
    have hlt := lt_drop h
    apply ref13_less_l1_le
    simp only [ltB_drop h, cond_true, nth_drop h, ref01_Has_ok hs, Option.bind_some, next_nat (show i < 4611686018427387904 by omega)]
    cases hy : has s y with
    | true =>
      simp only [cond_true, lower_ok h1, Option.bind_some]
      refine refless_l1 hs xs hl a11 a13 a15 a17 a19 a21 a27 suf (i + 1) (low c 1) acc (drop_next h) (low_lt h1 1) (by omega) r ?_
      rw [← hr, low_low]; congr 1
      · simp only [cnt, List.countP_cons, hy, if_true]; congr 1; omega
      · simp [hy]
    | false =>
      simp only [cond_false]
      rw [capOk_true (by simp [maxElems]; omega)]
      refine refless_l1 hs xs hl a11 a13 a15 a17 a19 a21 a27 suf (i + 1) c (acc ++ [y]) (drop_next h) h1 (by simp; omega) r ?_
      rw [← hr]; congr 1
      · simp [cnt, List.countP_cons, hy]
      · simp [hy]

theorem refless_ok {s : Nat} (hs : s < 1024) : ∀ t : Trust, Fits t → wf t = true → ref13_less t (s : Int) = some (lessR s t) := by
  apply Trust.ind
  intro t ih ht hw
  have hsz : size t < 1073741824 := ht
  rw [size_eq] at hsz
  rw [wf_eq, Bool.and_eq_true, decide_eq_true_eq] at hw
  have l2 : ∀ (suf : List Trust) (i : Nat) (c : Int) (nodes : List Int) (acc : List Trust) (a17 : Int) (a19 : List Int) (a21 : List Trust), t.Inner.drop i = suf → c < 9223372036854775808 → acc.length ≤ i →
      ref13_less_l2 (s : Int) t.Inner ((t.Inner.length : Nat) : Int) (i : Int) t.Threshold t.Nodes t.Inner a17 a19 a21 c nodes acc = some ⟨low c (gone s suf), nodes, acc ++ kept s suf⟩ := by
    intro suf
    induction suf with
    | nil =>
      intro i c nodes acc a17 a19 a21 h h1 ha
      apply ref13_less_l2_le
      simp only [ltB_end h, cond_false, kept, List.append_nil, gone, low_zero]
    | cons y suf ihs =>
      intro i c nodes acc a17 a19 a21 h h1 ha
      have hlt := lt_drop h
      have hy : y ∈ t.Inner := List.mem_of_mem_drop (by rw [h]; exact List.mem_cons_self)
      apply ref13_less_l2_le
      simp only [ltB_drop h, cond_true, nth_drop h, ih y hy (ht.mem hy) (wfs_mem hw.2 y hy), Option.bind_some, next_nat (show i < 4611686018427387904 by omega), Trust.eta]
      by_cases hz : (less s y).Threshold = 0
      · simp only [leB_true ((lessR_zero s y).2 hz), cond_true, lower_ok h1, Option.bind_some]
        rw [ihs (i + 1) (low c 1) nodes acc a17 a19 a21 (drop_next h) (low_lt h1 1) (by omega), low_low]
        simp only [kept, hz, if_true, gone]
      · simp only [leB_false (Int.not_le.1 fun e => hz ((lessR_zero s y).1 e)), cond_false]
        rw [capOk_true (by simp [maxElems]; omega), lessR_eq hz]
        rw [ihs (i + 1) c nodes (acc ++ [less s y]) a17 a19 a21 (drop_next h) h1 (by simp; omega)]
        simp only [kept, hz, if_false, gone, Nat.zero_add, List.append_assoc, List.cons_append, List.nil_append]
  apply ref13_less_le
  refine refless_l1 hs t.Nodes (by omega) _ _ _ _ _ _ _ t.Nodes 0 t.Threshold [] rfl hw.1 (Nat.le_refl _) _ ?_
  rw [show (0 : Int) = ((0 : Nat) : Int) from rfl, l2 t.Inner 0 _ _ _ _ _ _ rfl (low_lt hw.1 _) (Nat.le_refl _), low_low]
  simp only [lessR, less_eq, List.nil_append]

theorem ref_del_ok {s : Nat} (hs : s < 1024) (t : Trust) (ht : Fits t) (hw : wf t = true) (k : Int) : ref13_Trust t k (s : Int) = some (del k s t) := by
  apply ref13_Trust_le
  simp only [ref01_Valid_ok hs, Option.bind_some, Bool.not_true, cond_false, refless_ok hs t ht hw]
  unfold del
  by_cases hz : (less s t).Threshold = 0
  · simp only [leB_true ((lessR_zero s t).2 hz), cond_true, if_pos hz]
  · have hp : 0 < (less s t).Threshold := by
      have := Int.not_le.1 fun e => hz ((lessR_zero s t).1 e)
      rw [lessR_eq hz] at this
      exact this
    simp only [lessR_eq hz, leB_false hp, cond_false, if_neg hz, Trust.eta]

theorem ref_delete_ok {s : Nat} (hs : s < 1024) (c : Config) (hc : Bears c) : ref13_Delete c (s : Int) = some (delC s c) := by
  obtain ⟨hl, hb⟩ := hc
  have l1 : ∀ (suf : List Member) (i : Nat) (acc a10 a12 : List Member), c.Members.drop i = suf → acc.length ≤ i →
      ref13_Delete_l1 (s : Int) c.Members ((c.Members.length : Nat) : Int) (i : Int) a10 a12 acc = some ⟨acc ++ delL s i suf⟩ := by
    intro suf
    induction suf with
    | nil =>
      intro i acc a10 a12 h ha
      apply ref13_Delete_l1_le
      simp only [ltB_end h, cond_false, delL, List.append_nil]
    | cons y suf ihs =>
      intro i acc a10 a12 h ha
      have hlt := lt_drop h
      obtain ⟨hf, hw⟩ := hb y (List.mem_of_mem_drop (by rw [h]; exact List.mem_cons_self))
      have step : ref13_Delete_l1 (s : Int) c.Members ((c.Members.length : Nat) : Int) ((i + 1 : Nat) : Int) a10 a12 (acc ++ [delM s i y]) = some ⟨acc ++ delL s i (y :: suf)⟩ := by
        rw [ihs (i + 1) _ _ _ (drop_next h) (by simp; omega)]
        simp [delL]
      apply ref13_Delete_l1_le
      simp only [ltB_drop h, cond_true, nth_drop h, ref01_Has_ok hs, Option.bind_some, next_nat (show i < 4611686018427387904 by omega)]
      cases hh : has s (i : Int) with
      | true =>
        simp only [cond_true]
        rw [capOk_true (by simp [maxElems]; omega), ← step]
        simp [delM, hh, blank]
      | false =>
        cases hd : y.Declared with
        | true =>
          simp only [cond_true, cond_false, ref_del_ok hs y.Trust hf hw, Option.bind_some, Trust.eta]
          rw [capOk_true (by simp [maxElems]; omega), ← step]
          simp [delM, hh, hd]
        | false =>
          simp only [cond_false, Trust.eta]
          rw [capOk_true (by simp [maxElems]; omega), ← step]
          have : y = ⟨false, y.Trust⟩ := by cases y; simp only at hd; rw [hd]
          simp [delM, hh, hd]
          rw [this]
  apply ref13_Delete_le
  simp only [ref01_Valid_ok hs, Option.bind_some, Bool.not_true, cond_false]
  rw [show (0 : Int) = ((0 : Nat) : Int) from rfl, l1 c.Members 0 [] _ _ rfl (Nat.le_refl _)]
  simp [delC]

/-! ### Any trust, any configuration, any set -/
def TB (t : Trust) : Prop := size t < 1000000 ∧ wf t = true
def CB (c : Config) : Prop := c.Members.length < 1000000 ∧ ∀ m ∈ c.Members, TB m.Trust
theorem TB.fits {t : Trust} (h : TB t) : Fits t := by have := h.1; unfold Fits; omega
theorem CB.bears {c : Config} (h : CB c) : Bears c := ⟨by have := h.1; omega, fun m hm => ⟨(h.2 m hm).fits, (h.2 m hm).2⟩⟩
theorem set_cases (z : Int) : (z < 0 ∨ 1024 ≤ z) ∨ ∃ s : Nat, s < 1024 ∧ z = (s : Int) := by
  by_cases h : z < 0 ∨ 1024 ≤ z
  · exact .inl h
  · exact .inr ⟨z.toNat, by omega, by omega⟩
theorem del_size (k : Int) (s : Nat) (t : Trust) : size (del k s t) ≤ size t + 1 := by
  unfold del
  split
  · simp [size, sizes]
  · have := (less_size s t).1; omega
theorem trust_both {t : Trust} (h : TB t) (k z : Int) : ∃ d, deletion_Trust t k z = some d ∧ ref13_Trust t k z = some d ∧ Small d := by
  rcases set_cases z with hz | ⟨s, hs, rfl⟩
  · exact ⟨t, del_bad hz t h.fits k, ref_del_bad hz t k, h.fits.small⟩
  · exact ⟨del k s t, del_ok hs t h.fits h.2 k, ref_del_ok hs t h.fits h.2 k, by have := del_size k s t; have := h.1; unfold Small; omega⟩
theorem delL_small {s : Nat} : ∀ (l : List Member) (k : Nat), (∀ m ∈ l, TB m.Trust) → ∀ m ∈ delL s k l, Small m.Trust
  | [], _, _, m, hm => by cases hm
  | y :: r, k, h, m, hm => by
    simp only [delL, List.mem_cons] at hm
    rcases hm with rfl | hm
    · have hy := h y (by simp)
      unfold delM
      split
      · simp [Small, blank, size, sizes]
      · split
        · have := del_size (k : Int) s y.Trust; have := hy.1; unfold Small; simp only; omega
        · exact hy.fits.small
    · exact delL_small r (k + 1) (fun x hx => h x (by simp [hx])) m hm
theorem conf_both {c : Config} (h : CB c) (z : Int) : ∃ d, deletion_Delete c z = some d ∧ ref13_Delete c z = some d ∧ d.Members.length < 1152921504606846976 ∧ ∀ m ∈ d.Members, Small m.Trust := by
  have hl := h.1
  rcases set_cases z with hz | ⟨s, hs, rfl⟩
  · exact ⟨c, delete_bad hz c h.bears, ref_delete_bad hz c, by omega, fun m hm => (h.2 m hm).fits.small⟩
  · exact ⟨delC s c, delete_ok hs c h.bears, ref_delete_ok hs c h.bears, by show (delL s 0 c.Members).length < _; rw [delL_length]; omega, delL_small c.Members 0 h.2⟩

/-! ### Bent ones -/
theorem sizes_set {y y' : Trust} : ∀ (l : List Trust) (i : Nat), l[i]? = some y → sizes (l.set i y') + size y = sizes l + size y'
  | [], i, h => by simp at h
  | x :: r, 0, h => by simp at h; subst h; simp only [List.set_cons_zero, sizes]; omega
  | x :: r, i + 1, h => by
    have := sizes_set (y' := y') r i (by simpa using h)
    simp only [List.set_cons_succ, sizes]; omega
theorem wfs_set {y' : Trust} (hy : wf y' = true) : ∀ (l : List Trust) (i : Nat), wfs l = true → wfs (l.set i y') = true
  | [], i, _ => rfl
  | x :: r, 0, h => by simp only [wfs, Bool.and_eq_true] at h; simp only [List.set_cons_zero, wfs, hy, h.2, Bool.and_self]
  | x :: r, i + 1, h => by
    simp only [wfs, Bool.and_eq_true] at h
    simp only [List.set_cons_succ, wfs, h.1, wfs_set hy r i h.2, Bool.and_self]
theorem wfs_append (a b : List Trust) : wfs (a ++ b) = (wfs a && wfs b) := by
  induction a with
  | nil => simp [wfs]
  | cons x r ih => simp [wfs, ih, Bool.and_assoc]
theorem wf_mk {thr : Int} {a : List Int} {b : List Trust} (h : thr < 9223372036854775808) (hb : wfs b = true) : wf ⟨thr, a, b⟩ = true := by rw [wf_eq]; simp [h, hb]

theorem bent_l3 {l : List Int} (a8 : Int) (a10 : List Int) (a12 : List Trust) (a14 : Int) (a16 : List Int) (a18 : List Trust) (i : Int) : ∀ (n : Nat) (t : Trust), n < 1000000 → wf t = true →
    ∃ y, mk_BentTrust_l3 (n : Int) l i a8 a10 a12 a14 a16 a18 t.Threshold t.Nodes t.Inner = some (y, l, i) ∧ size y ≤ size t + n ∧ wf y = true
  | 0, t, _, hw => ⟨t, by
      apply mk_BentTrust_l3_le
      rw [ltB_false (by omega)]
      simp only [cond_false, Trust.eta], by omega, hw⟩
  | n + 1, t, hn, hw => by
    obtain ⟨y, h1, h2, h3⟩ := bent_l3 a8 a10 a12 a14 a16 a18 i n ⟨1, [], [t]⟩ (by omega) (wf_mk (by omega) (by simp [wfs, hw]))
    refine ⟨y, ?_, ?_, h3⟩
    · apply mk_BentTrust_l3_le
      rw [ltB_true (by omega), subI64 (by omega) (by omega), show (((n + 1 : Nat) : Int) - 1) = ((n : Nat) : Int) by omega]
      simp only [cond_true, Trust.eta]
      exact h1
    · simp [size, sizes] at h2; omega
theorem bent_l1 {l : List Int} (a8 : Int) (a10 : List Int) (a12 : List Trust) (a14 : Int) (a16 : List Int) (a18 : List Trust) (i : Int) (n : Nat) (t : Trust) (hn : n < 1000000) (hw : wf t = true) :
    ∃ y, mk_BentTrust_l1 (n : Int) l i a8 a10 a12 a14 a16 a18 t.Threshold t.Nodes t.Inner = some (y, l, i) ∧ size y ≤ size t + n ∧ wf y = true := by
  cases n with
  | zero => exact ⟨t, by
      apply mk_BentTrust_l1_le
      rw [ltB_false (by omega)]
      simp only [cond_false, Trust.eta], by omega, hw⟩
  | succ n =>
    obtain ⟨y, h1, h2, h3⟩ := bent_l3 (l := l) a8 a10 a12 a14 a16 a18 i n ⟨1, [], [t]⟩ (by omega) (wf_mk (by omega) (by simp [wfs, hw]))
    refine ⟨y, ?_, ?_, h3⟩
    · apply mk_BentTrust_l1_le
      rw [ltB_true (by omega), subI64 (by omega) (by omega), show (((n + 1 : Nat) : Int) - 1) = ((n : Nat) : Int) by omega]
      simp only [cond_true, Trust.eta]
      exact h1
    · simp [size, sizes] at h2; omega
theorem bent_l2 {l : List Int} (i : Int) (thr : Int) (nodes : List Int) (inner : List Trust) (a16 : Int) (a18 : List Int) (a20 : List Trust) (ht : thr < 9223372036854775808) (hi : wfs inner = true) (hl : inner.length < 1000000) : ∀ (n : Nat) (acc : List Trust), n + acc.length < 1000000 → wfs acc = true →
    ∃ y, mk_BentTrust_l2 acc (n : Int) l i thr nodes inner a16 a18 a20 = some (y, l, i) ∧ size y ≤ nodes.length + inner.length + sizes inner + acc.length + sizes acc + 2 * n ∧ wf y = true
  | 0, acc, hn, ha => ⟨⟨thr, nodes, acc ++ inner⟩, by
      apply mk_BentTrust_l2_le
      rw [ltB_false (by omega)]
      simp only [cond_false]
      rw [capOk_true (by simp [maxElems]; omega)], by simp [size, sizes_append]; omega, wf_mk ht (by rw [wfs_append, ha, hi]; rfl)⟩
  | n + 1, acc, hn, ha => by
    obtain ⟨y, h1, h2, h3⟩ := bent_l2 i thr nodes inner a16 a18 a20 ht hi hl n (acc ++ [⟨1, [remI .i64 ((n + 1 : Nat) : Int) 10], []⟩]) (by simp; omega) (by rw [wfs_append, ha]; rfl)
    refine ⟨y, ?_, ?_, h3⟩
    · apply mk_BentTrust_l2_le
      rw [ltB_true (by omega), subI64 (by omega) (by omega), show (((n + 1 : Nat) : Int) - 1) = ((n : Nat) : Int) by omega]
      simp only [cond_true]
      rw [capOk_true (by simp [maxElems]; omega)]
      exact h1
    · simp [sizes_append, size, sizes] at h2; omega

theorem bent_six {l : List Int} {x : Trust} (hs : size x < 1000000) (hw : wf x = true) {i : Int} (h : TapeOk l i) : ∃ y j, (
          Option.bind (mk_Tape_N 6 l i) fun x10 =>
          bif (eqB x10.1 0) then
            Option.bind (mk_Tape_Pick ([0, (-1), (addI .i64 ((List.length x.Nodes : Nat) : Int) ((List.length x.Inner : Nat) : Int)), (addI .i64 (addI .i64 ((List.length x.Nodes : Nat) : Int) ((List.length x.Inner : Nat) : Int)) 1)] : List (Int)) x10.2.1 x10.2.2) fun x11 =>
            some ((Trust.mk x11.1 x.Nodes x.Inner), x11.2.1, x11.2.2)
          else
            bif (eqB x10.1 1) then
              capOk (List.length ([] : List (Int)) + List.length x.Nodes) <|
              Option.bind (mk_Tape_Pick ([(-1), 0, 9, 10] : List (Int)) x10.2.1 x10.2.2) fun x12 =>
              capOk (List.length (([] : List (Int)) ++ x.Nodes) + List.length ([x12.1] : List (Int))) <|
              some ((Trust.mk x.Threshold ((([] : List (Int)) ++ x.Nodes) ++ ([x12.1] : List (Int))) x.Inner), x12.2.1, x12.2.2)
            else
              bif (eqB x10.1 2) then
                some ((Trust.mk x.Threshold ([] : List (Int)) x.Inner), x10.2.1, x10.2.2)
              else
                bif (eqB x10.1 3) then
                  capOk (List.length ([] : List (Trust)) + List.length x.Inner) <|
                  capOk (List.length (([] : List (Trust)) ++ x.Inner) + List.length ([(Trust.mk 0 ([] : List (Int)) ([] : List (Trust)))] : List (Trust))) <|
                  some ((Trust.mk x.Threshold x.Nodes ((([] : List (Trust)) ++ x.Inner) ++ ([(Trust.mk 0 ([] : List (Int)) ([] : List (Trust)))] : List (Trust)))), x10.2.1, x10.2.2)
                else
                  bif (eqB x10.1 4) then
                    Option.bind (mk_Tape_Range 1 4 x10.2.1 x10.2.2) fun x13 =>
                    mk_BentTrust_l1 x13.1 x13.2.1 x13.2.2 x.Threshold x.Nodes x.Inner 0 ([] : List (Int)) ([] : List (Trust)) x.Threshold x.Nodes x.Inner
                  else
                    Option.bind (mk_Tape_Pick ([20, 60, 101] : List (Int)) x10.2.1 x10.2.2) fun x14 =>
                    mk_BentTrust_l2 ([] : List (Trust)) x14.1 x14.2.1 x14.2.2 x.Threshold x.Nodes x.Inner 0 ([] : List (Int)) ([] : List (Trust))
    ) = some (y, l, j) ∧ size y ≤ size x + 1000 ∧ wf y = true ∧ TapeOk l j := by
  have hsz := hs
  rw [size_eq] at hsz
  have hw' := hw
  rw [wf_eq, Bool.and_eq_true, decide_eq_true_eq] at hw'
  obtain ⟨v, j, a1, a2, a3, a4⟩ := N_ok (n := 6) (by decide) (by decide) h
  rw [a1]
  simp only [Option.bind_some]
  by_cases h0 : v = 0
  · subst h0
    obtain ⟨p, j2, b1, b2, b3⟩ := Pick_ok (ps := [0, (-1), (addI .i64 ((List.length x.Nodes : Nat) : Int) ((List.length x.Inner : Nat) : Int)), (addI .i64 (addI .i64 ((List.length x.Nodes : Nat) : Int) ((List.length x.Inner : Nat) : Int)) 1)]) (by simp) (by simp) a4
    rw [b1]
    refine ⟨⟨p, x.Nodes, x.Inner⟩, j2, rfl, by rw [size_eq x]; simp only [size]; omega, wf_mk ?_ hw'.2, b3⟩
    rw [addI64 (by omega) (by omega), addI64 (by omega) (by omega)] at b2
    simp at b2
    omega
  rw [eqB_ne h0]
  simp only [cond_false]
  by_cases h1 : v = 1
  · subst h1
    obtain ⟨p, j2, b1, b2, b3⟩ := Pick_ok (ps := [(-1), 0, 9, 10]) (by simp) (by simp) a4
    rw [b1, capOk_true (by simp [maxElems]; omega)]
    simp only [Option.bind_some, eqB_self, cond_true]
    rw [capOk_true (by simp [maxElems]; omega)]
    exact ⟨_, j2, rfl, by rw [size_eq x]; simp [size]; omega, wf_mk hw'.1 hw'.2, b3⟩
  rw [eqB_ne h1]
  simp only [cond_false]
  by_cases h2 : v = 2
  · subst h2
    exact ⟨_, j, rfl, by rw [size_eq x]; simp [size]; omega, wf_mk hw'.1 hw'.2, a4⟩
  rw [eqB_ne h2]
  simp only [cond_false]
  by_cases h3 : v = 3
  · subst h3
    simp only [eqB_self, cond_true]
    rw [capOk_true (by simp [maxElems]; omega), capOk_true (by simp [maxElems]; omega)]
    exact ⟨_, j, rfl, by rw [size_eq x]; simp [size, sizes_append, sizes]; omega, wf_mk hw'.1 (by simp [wfs_append, hw'.2, wfs, wf]), a4⟩
  rw [eqB_ne h3]
  simp only [cond_false]
  by_cases h4 : v = 4
  · subst h4
    obtain ⟨p, j2, b1, b2, b3, b4⟩ := Range_ok (a := 1) (b := 4) (by decide) (by decide) (by decide) a4
    obtain ⟨n, rfl⟩ := Int.eq_ofNat_of_zero_le (show 0 ≤ p by omega)
    obtain ⟨y, c1, c2, c3⟩ := bent_l1 (l := l) x.Threshold x.Nodes x.Inner 0 [] [] j2 n x (by omega) hw
    rw [b1]
    simp only [Option.bind_some, eqB_self, cond_true]
    exact ⟨y, j2, c1, by omega, c3, b4⟩
  rw [eqB_ne h4]
  simp only [cond_false]
  obtain ⟨p, j2, b1, b2, b3⟩ := Pick_ok (ps := [20, 60, 101]) (by simp) (by simp) a4
  have hp : 0 ≤ p ∧ p ≤ 101 := by simp at b2; omega
  obtain ⟨n, rfl⟩ := Int.eq_ofNat_of_zero_le hp.1
  obtain ⟨y, c1, c2, c3⟩ := bent_l2 (l := l) j2 x.Threshold x.Nodes x.Inner 0 [] [] hw'.1 hw'.2 (by omega) n [] (by simp; omega) rfl
  rw [b1]
  exact ⟨y, j2, c1, by rw [size_eq x]; simp [sizes] at c2; omega, c3, b3⟩

theorem bent_ok {l : List Int} : ∀ x : Trust, size x < 1000000 → wf x = true → ∀ i, TapeOk l i → ∃ y j, mk_BentTrust x l i = some (y, l, j) ∧ size y ≤ size x + 1000 ∧ wf y = true ∧ TapeOk l j := by
  apply Trust.ind
  intro x ih hs hw i h
  have hsz := hs
  rw [size_eq] at hsz
  have hw' := hw
  rw [wf_eq, Bool.and_eq_true, decide_eq_true_eq] at hw'
  by_cases hne : 0 < x.Inner.length
  · obtain ⟨v, j, a1, a2, a3, a4⟩ := N_ok (n := 2) (by decide) (by decide) h
    by_cases h1 : v = 1
    · subst h1
      obtain ⟨p, j2, b1, b2, b3, b4⟩ := N_ok (n := ((x.Inner.length : Nat) : Int)) (by omega) (by omega) a4
      have hp : p.toNat < x.Inner.length := by omega
      have hg : x.Inner[p.toNat]? = some x.Inner[p.toNat] := List.getElem?_eq_getElem hp
      have hm := List.getElem_mem hp
      generalize x.Inner[p.toNat] = y2 at hg hm
      obtain ⟨y, j3, c1, c2, c3, c4⟩ := ih y2 hm (by have := size_mem hm; omega) (wfs_mem hw'.2 y2 hm) j2 b4
      refine ⟨⟨x.Threshold, x.Nodes, x.Inner.set p.toNat y⟩, j3, ?_, ?_, wf_mk hw'.1 (wfs_set c3 _ _ hw'.2), c4⟩
      · apply mk_BentTrust_le
        rw [ltB_true (by omega), a1]
        simp only [Option.bind_some, eqB_self, cond_true, List.nil_append]
        rw [capOk_true (by simp [maxElems]; omega), b1]
        simp only [Option.bind_some, nth_get b2 hg, nthN_get hg]
        rw [c1]
        simp only [Option.bind_some, Trust.eta]
      · have := sizes_set (y' := y) x.Inner p.toNat hg
        rw [size_eq x]; simp only [size, List.length_set]; omega
    · obtain ⟨y, j2, b1, b2, b3, b4⟩ := bent_six hs hw a4
      refine ⟨y, j2, ?_, b2, b3, b4⟩
      apply mk_BentTrust_le
      rw [ltB_true (by omega), a1]
      simp only [Option.bind_some, eqB_ne h1, cond_true, cond_false]
      exact b1
  · obtain ⟨y, j2, b1, b2, b3, b4⟩ := bent_six hs hw h
    refine ⟨y, j2, ?_, b2, b3, b4⟩
    apply mk_BentTrust_le
    rw [ltB_false (by omega)]
    simp only [cond_false]
    exact b1
end Go.Proofs.YtfemjbmfpnpjfaaDoor
