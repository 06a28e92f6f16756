/- Deletion: walk and plain law; the two laws of one trust. -/
import Derived.Test.YtfemjbmfpnpjfaaDoorR1Make
namespace Go.Proofs.YtfemjbmfpnpjfaaDoor
open Go Go.Ab

/-! ### Deletion -/
mutual
def less (s : Nat) : Trust → Trust
  | ⟨thr, nodes, inner⟩ => ⟨max 0 (max 0 thr - ((cnt s nodes + gone s inner : Nat) : Int)), nodes.filter (fun k => !has s k), kept s inner⟩
def gone (s : Nat) : List Trust → Nat
  | [] => 0
  | x :: r => (if (less s x).Threshold = 0 then 1 else 0) + gone s r
def kept (s : Nat) : List Trust → List Trust
  | [] => []
  | x :: r => if (less s x).Threshold = 0 then kept s r else less s x :: kept s r
end
theorem less_eq (s : Nat) (t : Trust) : less s t = ⟨max 0 (max 0 t.Threshold - ((cnt s t.Nodes + gone s t.Inner : Nat) : Int)), t.Nodes.filter (fun k => !has s k), kept s t.Inner⟩ := by cases t; simp only [less]

/-! Thresholds that the machine can bear. -/
mutual
def wf : Trust → Bool
  | ⟨thr, _, inner⟩ => decide (thr < 9223372036854775808) && wfs inner
def wfs : List Trust → Bool
  | [] => true
  | x :: r => wf x && wfs r
end
theorem wf_eq (t : Trust) : wf t = (decide (t.Threshold < 9223372036854775808) && wfs t.Inner) := by cases t; simp only [wf]
theorem wfs_mem {l : List Trust} (h : wfs l = true) : ∀ x ∈ l, wf x = true := by
  induction l with
  | nil => intro x hx; cases hx
  | cons y r ih =>
    simp only [wfs, Bool.and_eq_true] at h
    intro x hx
    rcases List.mem_cons.1 hx with rfl | hx
    · exact h.1
    · exact ih h.2 x hx

theorem lowered_ok {n : Int} (h0 : 0 ≤ n) (h1 : n < 9223372036854775808) : deletion_lowered n 1 = some (max 0 (n - 1)) := by
  apply deletion_lowered_le
  rw [subI64 (by split <;> omega) (by split <;> omega)]
  congr 1
  split <;> omega

theorem level_l1 {s : Nat} (hs : s < 1024) (xs : List Int) (hl : xs.length < 1073741824) (a11 : Int) (a13 : List Int) (a15 : List Trust) (a17 : Int) (a19 : List Int) (a21 a27 : List Trust) :
    ∀ (suf : List Int) (i : Nat) (c : Int) (acc : List Int), xs.drop i = suf → 0 ≤ c → c < 9223372036854775808 → acc.length ≤ i →
    Le (deletion_level_l2 (s : Int) a15 ((a15.length : Nat) : Int) 0 a11 a13 a15 a17 a19 a21 (max 0 (c - (cnt s suf : Nat))) (acc ++ suf.filter (fun k => !has s k)) a27) (deletion_level_l1 (s : Int) xs ((xs.length : Nat) : Int) (i : Int) a11 a13 a15 a17 a19 a21 c acc a27)
  | [], i, c, acc, h, h0, h1, ha => fun r hr => by
    apply deletion_level_l1_le
    simp only [ltB_end h, cond_false]
    rw [← hr]; congr 1
    · simp [cnt]; omega
    · simp
  | y :: suf, i, c, acc, h, h0, h1, ha => fun r hr => by
    have hlt := lt_drop h
    apply deletion_level_l1_le
    simp only [ltB_drop h, cond_true, nth_drop h, nodeset_Has_ok hs, Option.bind_some, next_nat (show i < 4611686018427387904 by omega)]
    cases hy : has s y with
    | true =>
      simp only [cond_true, lowered_ok h0 h1, Option.bind_some]
      refine level_l1 hs xs hl a11 a13 a15 a17 a19 a21 a27 suf (i + 1) (max 0 (c - 1)) acc (drop_next h) (by omega) (by omega) (by omega) r ?_
      rw [← hr]; congr 1
      · simp only [cnt, List.countP_cons, hy, if_true]; omega
      · simp [hy]
    | false =>
      simp only [cond_false]
      rw [capOk_true (by simp [maxElems]; omega)]
      refine level_l1 hs xs hl a11 a13 a15 a17 a19 a21 a27 suf (i + 1) c (acc ++ [y]) (drop_next h) h0 h1 (by simp; omega) r ?_
      rw [← hr]; congr 1
      · simp [cnt, List.countP_cons, hy]
      · simp [hy]

def Fits (t : Trust) : Prop := size t < 1073741824
theorem Fits.small {t : Trust} (h : Fits t) : Small t := by unfold Fits at h; unfold Small; omega
theorem Fits.mem {t x : Trust} (h : Fits t) (hx : x ∈ t.Inner) : Fits x := by
  unfold Fits at *; rw [size_eq] at h; have := size_mem hx; omega

theorem level_ok {s : Nat} (hs : s < 1024) : ∀ t : Trust, Fits t → wf t = true → deletion_level t (s : Int) = some (less s t) := by
  apply Trust.ind
  intro t ih ht hw
  have hsz : size t < 1073741824 := ht
  rw [size_eq] at hsz
  rw [wf_eq, Bool.and_eq_true, decide_eq_true_eq] at hw
  have l2 : ∀ (suf : List Trust) (i : Nat) (c : Int) (nodes : List Int) (acc : List Trust) (a17 : Int) (a19 : List Int) (a21 : List Trust), t.Inner.drop i = suf → 0 ≤ c → c < 9223372036854775808 → acc.length ≤ i →
      deletion_level_l2 (s : Int) t.Inner ((t.Inner.length : Nat) : Int) (i : Int) t.Threshold t.Nodes t.Inner a17 a19 a21 c nodes acc = some ⟨max 0 (c - (gone s suf : Nat)), nodes, acc ++ kept s suf⟩ := by
    intro suf
    induction suf with
    | nil =>
      intro i c nodes acc a17 a19 a21 h h0 h1 ha
      apply deletion_level_l2_le
      simp only [ltB_end h, cond_false, kept, List.append_nil, gone]
      congr 2; omega
    | cons y suf ihs =>
      intro i c nodes acc a17 a19 a21 h h0 h1 ha
      have hlt := lt_drop h
      have hy : y ∈ t.Inner := List.mem_of_mem_drop (by rw [h]; exact List.mem_cons_self)
      apply deletion_level_l2_le
      simp only [ltB_drop h, cond_true, nth_drop h, ih y hy (ht.mem hy) (wfs_mem hw.2 y hy), Option.bind_some, next_nat (show i < 4611686018427387904 by omega), Trust.eta]
      by_cases hz : (less s y).Threshold = 0
      · simp only [hz, eqB_self, cond_true, lowered_ok h0 h1, Option.bind_some]
        rw [ihs (i + 1) (max 0 (c - 1)) nodes acc a17 a19 a21 (drop_next h) (by omega) (by omega) (by omega)]
        simp only [kept, hz, if_true, gone]
        congr 2; omega
      · simp only [eqB_ne hz, cond_false]
        rw [capOk_true (by simp [maxElems]; omega)]
        rw [ihs (i + 1) c nodes (acc ++ [less s y]) a17 a19 a21 (drop_next h) h0 h1 (by simp; omega)]
        simp only [kept, hz, if_false, gone, Nat.zero_add, List.append_assoc, List.cons_append, List.nil_append]
  apply deletion_level_le
  have hthr : (if 0 > t.Threshold then 0 else t.Threshold) = max 0 t.Threshold := by split <;> omega
  rw [hthr]
  refine level_l1 hs t.Nodes (by omega) _ _ _ _ _ _ _ t.Nodes 0 (max 0 t.Threshold) [] rfl (by omega) (by omega) (Nat.le_refl _) _ ?_
  rw [show (0 : Int) = ((0 : Nat) : Int) from rfl, l2 t.Inner 0 _ _ _ _ _ _ rfl (by omega) (by omega) (Nat.le_refl _), less_eq]
  congr 2
  omega

theorem del_ok {s : Nat} (hs : s < 1024) (t : Trust) (ht : Fits t) (hw : wf t = true) (k : Int) : deletion_Trust t k (s : Int) = some (if (less s t).Threshold = 0 then ⟨1, [k], []⟩ else less s t) := by
  apply deletion_Trust_le
  simp only [nodeset_Valid_ok hs, Option.bind_some, Bool.not_true, cond_false, level_ok hs t ht hw]
  by_cases hz : (less s t).Threshold = 0
  · simp only [hz, eqB_self, cond_true, if_true]
  · simp only [eqB_ne hz, cond_false, hz, if_false, Trust.eta]

/-! ### The plain law -/
theorem has_union (s z : Nat) (k : Int) : has (z ||| s) k = (has z k || has s k) := by
  simp only [has, Nat.testBit_or]
  cases decide (0 ≤ k) <;> cases decide (k < 10) <;> simp
theorem cnt_union (s z : Nat) : ∀ l : List Int, cnt (z ||| s) l = cnt s l + cnt z (l.filter (fun k => !has s k))
  | [] => rfl
  | y :: r => by
    have ih := cnt_union s z r
    simp only [cnt] at ih ⊢
    rw [List.countP_cons, List.countP_cons, List.filter_cons, has_union, ih]
    cases h1 : has s y <;> cases h2 : has z y <;> simp [h2, List.countP_cons] <;> omega
theorem sat_less (s z : Nat) : ∀ t : Trust, sat z (less s t) = sat (z ||| s) t := by
  apply Trust.ind
  intro t ih
  have hin : ∀ l : List Trust, (∀ x ∈ l, sat z (less s x) = sat (z ||| s) x) → sats (z ||| s) l = gone s l + sats z (kept s l) := by
    intro l
    induction l with
    | nil => intro _; rfl
    | cons y r ihr =>
      intro h
      have h1 := h y (by simp)
      have h2 := ihr (fun x hx => h x (by simp [hx]))
      simp only [sats, gone, kept, h2]
      by_cases hz : (less s y).Threshold = 0
      · have : sat (z ||| s) y = true := by rw [← h1, sat_eq, hz]; simp; omega
        simp only [this, hz, if_true]; omega
      · simp only [hz, if_false, sats, h1]; omega
  rw [sat_eq, sat_eq, less_eq, cnt_union s z, hin t.Inner ih]
  congr 1
  simp only [eq_iff_iff]
  omega

theorem zero_sat {s z : Nat} {t : Trust} (h : (less s t).Threshold = 0) : sat (z ||| s) t = true := by
  rw [← sat_less, sat_eq, h]; simp; omega

/-! ### Validity after deletion -/
theorem less_nonneg (s : Nat) (t : Trust) : 0 ≤ (less s t).Threshold := by rw [less_eq]; simp only; omega
theorem fresh_mono {s s' : Nat} (h : ∀ k, has s' k = true → has s k = true) : ∀ l : List Int, fresh s l = true → ∀ q : Int → Bool, fresh s' (l.filter q) = true
  | [], _, _ => rfl
  | y :: r, hf, q => by
    simp only [fresh, Bool.and_eq_true, Bool.not_eq_true'] at hf
    obtain ⟨h1, h2, h3⟩ := hf
    have hmono : ∀ (a b : Nat), (∀ k, has a k = true → has b k = true) → ∀ k, has (a ||| bit y) k = true → has (b ||| bit y) k = true := by
      intro a b hab k hk
      rw [has_or h1] at hk ⊢
      cases ha : has a k with
      | true => rw [hab k ha]; rfl
      | false => rw [ha] at hk; simp only [Bool.false_or] at hk; rw [hk]; simp
    rw [List.filter_cons]
    split
    · simp only [fresh, h1, Bool.true_and]
      have h4 : has s' y = false := by
        cases hh : has s' y with
        | true => rw [h y hh] at h2; cases h2
        | false => rfl
      rw [h4]
      simp only [Bool.not_false, Bool.true_and]
      exact fresh_mono (hmono s' s h) r h3 q
    · exact fresh_mono (fun k hk => by rw [has_or h1, h k hk]; rfl) r h3 q

theorem less_good (s : Nat) : ∀ t : Trust, good t = true → (less s t).Threshold ≠ 0 → good (less s t) = true := by
  apply Trust.ind
  intro t ih hg hz
  have hin : ∀ l : List Trust, (∀ x ∈ l, good x = true → (less s x).Threshold ≠ 0 → good (less s x) = true) → goods l = true → goods (kept s l) = true ∧ (kept s l).length + gone s l = l.length := by
    intro l
    induction l with
    | nil => intro _ _; exact ⟨rfl, rfl⟩
    | cons y r ihr =>
      intro h hgl
      simp only [goods, Bool.and_eq_true] at hgl
      obtain ⟨h1, h2⟩ := ihr (fun x hx => h x (by simp [hx])) hgl.2
      simp only [kept, gone]
      by_cases hy : (less s y).Threshold = 0
      · simp only [hy, if_true, h1, List.length_cons]; exact ⟨trivial, by omega⟩
      · simp only [hy, if_false, goods, h y (by simp) hgl.1 hy, h1, Bool.and_self, List.length_cons]; exact ⟨trivial, by omega⟩
  rw [good_eq] at hg
  simp only [Bool.and_eq_true, decide_eq_true_eq] at hg
  obtain ⟨g1, g2, g3, g4, g5⟩ := hg
  obtain ⟨h1, h2⟩ := hin t.Inner ih g5
  have hlen : (t.Nodes.filter (fun k => !has s k)).length + cnt s t.Nodes = t.Nodes.length := by
    have := List.length_eq_countP_add_countP (has s) (l := t.Nodes)
    rw [← List.countP_eq_length_filter]
    simp only [cnt]
    have h5 : List.countP (fun a => decide ¬has s a = true) t.Nodes = List.countP (fun k => !has s k) t.Nodes := by
      congr 1; funext k; cases has s k <;> rfl
    omega
  rw [less_eq] at hz ⊢
  rw [good_eq]
  simp only [Bool.and_eq_true, decide_eq_true_eq] at hz ⊢
  refine ⟨by omega, by omega, ?_, fresh_mono (fun k hk => hk) _ g4 _, h1⟩
  rw [List.all_eq_true] at g3 ⊢
  exact fun x hx => g3 x (List.mem_filter.1 hx).1
theorem less_size (s : Nat) : ∀ t : Trust, size (less s t) ≤ size t ∧ depth (less s t) ≤ depth t := by
  apply Trust.ind
  intro t ih
  have hin : ∀ l : List Trust, (∀ x ∈ l, size (less s x) ≤ size x ∧ depth (less s x) ≤ depth x) → sizes (kept s l) + (kept s l).length ≤ sizes l + l.length ∧ depths (kept s l) ≤ depths l := by
    intro l
    induction l with
    | nil => intro _; simp [kept]
    | cons y r ihr =>
      intro h
      obtain ⟨h1, h2⟩ := ihr (fun x hx => h x (by simp [hx]))
      obtain ⟨h3, h4⟩ := h y (by simp)
      simp only [kept]
      split
      · simp only [sizes, depths, List.length_cons]; omega
      · simp only [sizes, depths, List.length_cons]; omega
  obtain ⟨h1, h2⟩ := hin t.Inner ih
  have h3 : (t.Nodes.filter (fun k => !has s k)).length ≤ t.Nodes.length := List.length_filter_le _ _
  rw [less_eq]
  simp only [size_mk, size_eq t, depth_eq]
  omega
theorem less_valid (s : Nat) (t : Trust) (h : valid t = true) (hz : (less s t).Threshold ≠ 0) : valid (less s t) = true := by
  simp only [valid, Bool.and_eq_true, decide_eq_true_eq] at h ⊢
  obtain ⟨h1, h2⟩ := less_size s t
  exact ⟨by omega, by omega, less_good s t h.2.2 hz⟩
theorem good_wf : ∀ t : Trust, Fits t → good t = true → wf t = true := by
  apply Trust.ind
  intro t ih ht hg
  have hsz : size t < 1073741824 := ht
  rw [size_eq] at hsz
  rw [good_eq] at hg
  simp only [Bool.and_eq_true, decide_eq_true_eq] at hg
  obtain ⟨g1, g2, g3, g4, g5⟩ := hg
  rw [wf_eq]
  simp only [Bool.and_eq_true, decide_eq_true_eq]
  refine ⟨by omega, ?_⟩
  have hin : ∀ l : List Trust, (∀ x ∈ l, good x = true → wf x = true) → goods l = true → wfs l = true := by
    intro l
    induction l with
    | nil => intro _ _; rfl
    | cons y r ihr =>
      intro h hgl
      simp only [goods, Bool.and_eq_true] at hgl
      simp only [wfs, h y (by simp) hgl.1, ihr (fun x hx => h x (by simp [hx])) hgl.2, Bool.and_self]
  exact hin t.Inner (fun x hx => ih x hx (ht.mem hx)) g5
theorem valid_fits {t : Trust} (h : valid t = true) : Fits t ∧ wf t = true := by
  simp only [valid, Bool.and_eq_true, decide_eq_true_eq] at h
  have hf : Fits t := by unfold Fits; omega
  exact ⟨hf, good_wf t hf h.2.2⟩

/-! ### Uses -/
def usesN : List Int → Nat
  | [] => 0
  | k :: r => (if inR k then bit k else 0) ||| usesN r
mutual
def uses : Trust → Nat
  | ⟨_, nodes, inner⟩ => usesN nodes ||| usesL inner
def usesL : List Trust → Nat
  | [] => 0
  | x :: r => uses x ||| usesL r
end
theorem uses_eq (t : Trust) : uses t = usesN t.Nodes ||| usesL t.Inner := by cases t; simp only [uses]
theorem usesN_lt : ∀ l, usesN l < 1024
  | [] => by simp [usesN]
  | k :: r => by
    simp only [usesN]
    refine Nat.or_lt_two_pow (n := 10) ?_ (usesN_lt r)
    split
    · exact bit_lt (by assumption)
    · decide
theorem uses_lt : ∀ t : Trust, uses t < 1024 := by
  apply Trust.ind
  intro t ih
  rw [uses_eq]
  refine Nat.or_lt_two_pow (n := 10) (usesN_lt _) ?_
  have : ∀ l : List Trust, (∀ x ∈ l, uses x < 1024) → usesL l < 2 ^ 10 := by
    intro l
    induction l with
    | nil => intro _; simp [usesL]
    | cons y r ihr =>
      intro h
      simp only [usesL]
      exact Nat.or_lt_two_pow (h y (by simp)) (ihr (fun x hx => h x (by simp [hx])))
  exact this t.Inner ih
theorem uses_l1 (xs : List Int) (hl : xs.length < 1152921504606846976) (a9 : Int) (a11 : List Int) (a13 : List Trust) : ∀ (suf : List Int) (i c : Nat), xs.drop i = suf → c < 1024 →
    Le (ref02_Uses_l2 ((c ||| usesN suf : Nat) : Int) a13 ((a13.length : Nat) : Int) 0 a9 a11 a13) (ref02_Uses_l1 (c : Int) xs ((xs.length : Nat) : Int) (i : Int) a9 a11 a13)
  | [], i, c, h, hc => fun r hr => by
    apply ref02_Uses_l1_le
    simp only [ltB_end h, cond_false]
    simpa [usesN] using hr
  | y :: suf, i, c, h, hc => fun r hr => by
    have hlt := lt_drop h
    apply ref02_Uses_l1_le
    simp only [ltB_drop h, cond_true, nth_drop h, next_nat (show i < 4611686018427387904 by omega)]
    by_cases hy : inR y = true
    · have hy' := hy
      simp only [inR, Bool.and_eq_true, decide_eq_true_eq] at hy'
      have hb := bit_lt hy
      simp only [leB_true hy'.1, ltB_true hy'.2, cond_true, chk_true hy'.1, shl_bit hy, orI_nat (show c < 2 ^ 62 by omega) (show bit y < 2 ^ 62 by omega)]
      refine uses_l1 xs hl a9 a11 a13 suf (i + 1) (c ||| bit y) (drop_next h) (Nat.or_lt_two_pow (n := 10) hc hb) r ?_
      rw [← hr]; congr 2
      simp only [usesN, hy, if_true, Nat.or_assoc]
    · have hn : ¬ (0 ≤ y ∧ y < 10) := by simpa [inR] using hy
      have hgo : ref02_Uses_l1 (c : Int) xs ((xs.length : Nat) : Int) ((i + 1 : Nat) : Int) a9 a11 a13 = some r := by
        refine uses_l1 xs hl a9 a11 a13 suf (i + 1) c (drop_next h) hc r ?_
        rw [← hr]; congr 2
        simp [usesN, hy]
      by_cases h0 : 0 ≤ y
      · simp only [leB_true h0, ltB_false (show 10 ≤ y by omega), cond_true, cond_false]; exact hgo
      · simp only [leB_false (Int.not_le.1 h0), cond_false]; exact hgo
theorem uses_ok : ∀ t : Trust, Small t → ref02_Uses t = some ((uses t : Nat) : Int) := by
  apply Trust.ind
  intro t ih ht
  have hn := ht.nodes
  have hi := ht.inner
  have l2 : ∀ (suf : List Trust) (i c : Nat), t.Inner.drop i = suf → c < 1024 → ref02_Uses_l2 (c : Int) t.Inner ((t.Inner.length : Nat) : Int) (i : Int) t.Threshold t.Nodes t.Inner = some ((c ||| usesL suf : Nat) : Int) := by
    intro suf
    induction suf with
    | nil =>
      intro i c h hc
      apply ref02_Uses_l2_le
      simp only [ltB_end h, cond_false, usesL, Nat.or_zero]
    | cons y suf ihs =>
      intro i c h hc
      have hlt := lt_drop h
      have hy : y ∈ t.Inner := List.mem_of_mem_drop (by rw [h]; exact List.mem_cons_self)
      have hu := uses_lt y
      apply ref02_Uses_l2_le
      simp only [ltB_drop h, cond_true, nth_drop h, ih y hy (ht.mem hy), Option.bind_some, next_nat (show i < 4611686018427387904 by omega), orI_nat (show c < 2 ^ 62 by omega) (show uses y < 2 ^ 62 by omega)]
      rw [ihs (i + 1) (c ||| uses y) (drop_next h) (Nat.or_lt_two_pow (n := 10) hc hu)]
      simp only [usesL, Nat.or_assoc]
  apply ref02_Uses_le
  refine uses_l1 t.Nodes (by omega) _ _ _ t.Nodes 0 0 rfl (by decide) _ ?_
  rw [show (0 : Int) = ((0 : Nat) : Int) from rfl, l2 t.Inner 0 _ rfl (Nat.or_lt_two_pow (n := 10) (by decide) (usesN_lt _)), Nat.zero_or, uses_eq]
theorem bit_has {s : Nat} {k : Int} (h : inR k = true) (hh : has s k = false) : s.testBit k.toNat = false := by
  simp only [inR, Bool.and_eq_true, decide_eq_true_eq] at h
  simpa [has, h.1, h.2] using hh
theorem usesN_filter (s : Nat) : ∀ l : List Int, usesN (l.filter (fun k => !has s k)) &&& s = 0
  | [] => by simp [usesN]
  | y :: r => by
    have ih := usesN_filter s r
    rw [List.filter_cons]
    split
    · rename_i hy
      simp only [usesN, Nat.and_or_distrib_right, ih, Nat.or_zero]
      split
      · rename_i hr
        have hb := bit_has hr (by simpa using hy)
        rw [bit, Nat.and_comm, and_pow, hb]; rfl
      · simp
    · exact ih
theorem uses_less (s : Nat) : ∀ t : Trust, uses (less s t) &&& s = 0 := by
  apply Trust.ind
  intro t ih
  have hin : ∀ l : List Trust, (∀ x ∈ l, uses (less s x) &&& s = 0) → usesL (kept s l) &&& s = 0 := by
    intro l
    induction l with
    | nil => intro _; simp [kept, usesL]
    | cons y r ihr =>
      intro h
      have h1 := ihr (fun x hx => h x (by simp [hx]))
      simp only [kept]
      split
      · exact h1
      · simp only [usesL, Nat.and_or_distrib_right, h y (by simp), h1, Nat.or_zero]
  rw [less_eq, uses_eq, Nat.and_or_distrib_right, usesN_filter, hin t.Inner ih]; rfl
end Go.Proofs.YtfemjbmfpnpjfaaDoor
