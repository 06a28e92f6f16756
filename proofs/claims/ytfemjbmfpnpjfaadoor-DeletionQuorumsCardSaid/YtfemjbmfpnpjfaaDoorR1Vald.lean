/- Valid configurations; quorums after a deletion: the law. -/
import Derived.Test.YtfemjbmfpnpjfaaDoorR1Quor
namespace Go.Proofs.YtfemjbmfpnpjfaaDoor
open Go Go.Ab

/-! ### Valid -/
def MemV (n : Nat) (m : Member) : Prop := if m.Declared then valid m.Trust = true ∧ uses m.Trust < 2 ^ n else m.Trust = blank
def ValidC (c : Config) : Prop := c.Members.length ≤ 10 ∧ ∀ m ∈ c.Members, MemV c.Members.length m
theorem validC_l1 (ms : List Member) (hl : ms.length ≤ 10) (hs : ∀ m ∈ ms, Small m.Trust) : ∀ (suf : List Member) (i : Nat), ms.drop i = suf →
    ∃ e, ref06_Valid_l1 ms ((ms.length : Nat) : Int) (i : Int) ms = some e ∧ (e = 0 ↔ ∀ m ∈ suf, MemV ms.length m)
  | [], i, h => by
    refine ⟨0, ?_, by simp⟩
    apply ref06_Valid_l1_le
    rw [ltB_end h]
    rfl
  | m :: suf, i, h => by
    have hlt := lt_drop h
    have hm : m ∈ ms := List.mem_of_mem_drop (by rw [h]; exact List.mem_cons_self)
    obtain ⟨e, h1, h2⟩ := validC_l1 ms hl hs suf (i + 1) (drop_next h)
    have hsm := hs m hm
    cases hd : m.Declared with
    | false =>
      obtain ⟨r, g1, g2⟩ := same_ok m.Trust hsm blank
      cases r with
      | true =>
        refine ⟨e, ?_, by rw [h2]; simp [MemV, hd, g2.1 rfl]⟩
        apply ref06_Valid_l1_le
        rw [ltB_drop h, nth_drop h, hd]
        simp only [cond_true, Bool.not_false]
        rw [show (Trust.mk 0 [] []) = blank from rfl, g1, next_nat (by omega)]
        exact h1
      | false =>
        have hne : m.Trust ≠ blank := fun e => by have := g2.2 e; cases this
        refine ⟨1, ?_, by simp [MemV, hd, hne]⟩
        apply ref06_Valid_l1_le
        rw [ltB_drop h, nth_drop h, hd]
        simp only [cond_true, Bool.not_false]
        rw [show (Trust.mk 0 [] []) = blank from rfl, g1]
        rfl
    | true =>
      obtain ⟨v, g1, g2⟩ := valid_ok m.Trust hsm
      by_cases hv : v = 0
      · have hvt := g2.1 hv
        have hu := uses_lt m.Trust
        have hp : 2 ^ ms.length ≤ 1024 := Nat.pow_le_pow_right (n := 2) (by decide) hl
        by_cases hb : uses m.Trust < 2 ^ ms.length
        · refine ⟨e, ?_, by rw [h2]; simp [MemV, hd, hvt, hb]⟩
          apply ref06_Valid_l1_le
          rw [ltB_drop h, nth_drop h, hd]
          simp only [cond_true, Bool.not_true, cond_false, g1, Option.bind_some, hv, neB_self]
          rw [chk_true (by omega), uses_ok m.Trust hsm, shl1 (by omega) (by omega), Int.toNat_natCast]
          simp only [Option.bind_some]
          rw [leB_false (by omega), next_nat (by omega)]
          exact h1
        · refine ⟨5, ?_, by simp [MemV, hd, hb]⟩
          apply ref06_Valid_l1_le
          rw [ltB_drop h, nth_drop h, hd]
          simp only [cond_true, Bool.not_true, cond_false, g1, Option.bind_some, hv, neB_self]
          rw [chk_true (by omega), uses_ok m.Trust hsm, shl1 (by omega) (by omega), Int.toNat_natCast]
          simp only [Option.bind_some]
          rw [leB_true (by omega)]
          rfl
      · have hvf : valid m.Trust = false := by
          cases hx : valid m.Trust with
          | false => rfl
          | true => exact absurd (g2.2 hx) hv
        refine ⟨v, ?_, by simp [MemV, hd, hvf, hv]⟩
        apply ref06_Valid_l1_le
        rw [ltB_drop h, nth_drop h, hd]
        simp only [cond_true, Bool.not_true, cond_false, g1, Option.bind_some, neB_ne hv]
theorem validC_ok (c : Config) (h : SmallC c) : ∃ e, ref06_Valid c = some e ∧ (e = 0 ↔ ValidC c) := by
  by_cases hl : c.Members.length ≤ 10
  · obtain ⟨e, h1, h2⟩ := validC_l1 c.Members hl h.2 c.Members 0 rfl
    refine ⟨e, ?_, by rw [h2]; simp [ValidC, hl]⟩
    apply ref06_Valid_le
    rw [ltB_false (by omega)]
    exact h1
  · refine ⟨3, ?_, by simp [ValidC, hl]⟩
    apply ref06_Valid_le
    rw [ltB_true (by omega)]
    rfl

theorem usesN_below {m : Nat} : ∀ {l : List Int}, (∀ x ∈ l, 0 ≤ x ∧ x < (m : Int)) → usesN l < 2 ^ m
  | [], _ => by simp only [usesN]; exact Nat.two_pow_pos m
  | k :: r, h => by
    simp only [usesN]
    have hk := h k (by simp)
    refine Nat.or_lt_two_pow ?_ (usesN_below fun x hx => h x (by simp [hx]))
    split
    · exact Nat.pow_lt_pow_right (a := 2) (by decide) (by omega)
    · exact Nat.two_pow_pos m
theorem below_all {m : Int} {l : List Int} (h : l.all (fun k => decide (0 ≤ k) && decide (k < m)) = true) : ∀ x ∈ l, 0 ≤ x ∧ x < m := by
  intro x hx
  have := List.all_eq_true.1 h x hx
  simpa using this
theorem uses_below {m : Nat} : ∀ t : Trust, below (m : Int) t = true → uses t < 2 ^ m := by
  apply Trust.ind
  intro t ih h
  rw [below_eq, Bool.and_eq_true] at h
  rw [uses_eq]
  refine Nat.or_lt_two_pow (usesN_below (below_all h.1)) ?_
  have : ∀ l : List Trust, belows (m : Int) l = true → (∀ x ∈ l, below (m : Int) x = true → uses x < 2 ^ m) → usesL l < 2 ^ m := by
    intro l
    induction l with
    | nil => intro _ _; simp only [usesL]; exact Nat.two_pow_pos m
    | cons y r ihr =>
      intro hb hx
      simp only [belows, Bool.and_eq_true] at hb
      simp only [usesL]
      exact Nat.or_lt_two_pow (hx y (by simp) hb.1) (ihr hb.2 fun x hxr => hx x (by simp [hxr]))
  exact this t.Inner h.2 ih
theorem less_below (s : Nat) {m : Int} : ∀ t : Trust, below m t = true → below m (less s t) = true := by
  apply Trust.ind
  intro t ih h
  rw [below_eq, Bool.and_eq_true] at h
  rw [below_eq, less_eq]
  simp only [Bool.and_eq_true]
  constructor
  · exact all_below fun x hx => below_all h.1 x (List.mem_filter.1 hx).1
  · have : ∀ l : List Trust, belows m l = true → (∀ x ∈ l, below m x = true → below m (less s x) = true) → belows m (kept s l) = true := by
      intro l
      induction l with
      | nil => intro _ _; rfl
      | cons y r ihr =>
        intro hb hx
        simp only [belows, Bool.and_eq_true] at hb
        simp only [kept]
        split
        · exact ihr hb.2 fun x hxr => hx x (by simp [hxr])
        · simp only [belows, Bool.and_eq_true]
          exact ⟨hx y (by simp) hb.1, ihr hb.2 fun x hxr => hx x (by simp [hxr])⟩
    exact this t.Inner h.2 ih
theorem del_below {k m : Int} (hk : 0 ≤ k ∧ k < m) (s : Nat) {t : Trust} (h : below m t = true) : below m (del k s t) = true := by
  unfold del
  split
  · exact below_mk (by simp; omega) rfl
  · exact less_below s t h

theorem ConfOk.valid {n : Nat} {c : Config} (h : ConfOk n c) (hn : n ≤ 10) : ValidC c := by
  refine ⟨by have := h.le; omega, fun m hm => ?_⟩
  have := h.mem m hm
  unfold MemOk at this
  unfold MemV
  split
  · rename_i hd
    simp only [hd, if_true] at this
    exact ⟨this.1, uses_below _ this.2⟩
  · rename_i hd
    simpa [hd] using this

/-! ### Deleted configurations -/
theorem delL_get (s : Nat) : ∀ (l : List Member) (k i : Nat), (delL s k l)[i]? = (l[i]?).map (delM s (k + i))
  | [], k, i => by simp [delL]
  | m :: r, k, i => by
    simp only [delL]
    cases i with
    | zero => simp
    | succ i => simp only [List.getElem?_cons_succ]; rw [delL_get s r (k + 1) i, show k + 1 + i = k + (i + 1) by omega]
theorem delC_get (s : Nat) (c : Config) (i : Nat) : (delC s c).Members[i]? = (c.Members[i]?).map (delM s i) := by
  show (delL s 0 c.Members)[i]? = _
  rw [delL_get, Nat.zero_add]
theorem delC_conf {n s : Nat} {c : Config} (h : ConfOk n c) (hn : n ≤ 10) : ConfOk n (delC s c) := by
  have hlen : (delC s c).Members.length = c.Members.length := delL_length s _ _
  refine ⟨by rw [hlen]; exact h.pos, by rw [hlen]; exact h.le, fun x hx => ?_⟩
  obtain ⟨i, hi, rfl⟩ := List.mem_iff_getElem.1 hx
  have hi' : i < c.Members.length := by omega
  have hg := delC_get s c i
  rw [List.getElem?_eq_getElem hi, List.getElem?_eq_getElem hi'] at hg
  simp only [Option.map_some, Option.some.injEq] at hg
  rw [hg, hlen]
  have hm := h.mem c.Members[i] (List.getElem_mem hi')
  have hle := h.le
  unfold delM
  split
  · rfl
  · split
    · rename_i hd
      unfold MemOk at hm
      simp only [hd, if_true] at hm
      exact ⟨del_valid (by simp only [inR, Bool.and_eq_true, decide_eq_true_eq]; omega) hm.1, del_below (by omega) s hm.2⟩
    · exact hm
theorem testBit_decl_del {s i : Nat} {c : Config} : (decl (delC s c)).testBit i = true ↔ (decl c).testBit i = true ∧ s.testBit i = false := by
  rw [testBit_decl, testBit_decl, delC_get]
  constructor
  · rintro ⟨h1, m, h2, h3⟩
    cases hm : c.Members[i]? with
    | none => rw [hm] at h2; cases h2
    | some m0 =>
      rw [hm] at h2
      simp only [Option.map_some, Option.some.injEq] at h2
      subst h2
      unfold delM at h3
      rw [has_nat h1] at h3
      cases hs : s.testBit i with
      | true => simp [hs] at h3
      | false =>
        cases hd : m0.Declared with
        | true => exact ⟨⟨h1, m0, rfl, hd⟩, rfl⟩
        | false => simp [hs, hd] at h3
  · rintro ⟨⟨h1, m, h2, h3⟩, h4⟩
    refine ⟨h1, delM s i m, by rw [h2]; rfl, ?_⟩
    unfold delM
    rw [has_nat h1, h4, h3]
    simp
theorem decl_del (s : Nat) (c : Config) : decl (delC s c) = ndiff (decl c) s := by
  apply Nat.eq_of_testBit_eq
  intro i
  rw [testBit_ndiff]
  have := @testBit_decl_del s i c
  cases h1 : (decl (delC s c)).testBit i <;> cases h2 : (decl c).testBit i <;> cases h3 : s.testBit i <;> simp_all
theorem tr_del {s k : Nat} {c : Config} (h : (decl (delC s c)).testBit k = true) : tr (delC s c) k = del (k : Int) s (tr c k) := by
  obtain ⟨h1, h2⟩ := testBit_decl_del.1 h
  obtain ⟨hk, m, h3, h4⟩ := testBit_decl.1 h1
  unfold tr
  rw [delC_get, h3]
  simp only [Option.map_some, Option.getD_some]
  unfold delM
  rw [has_nat hk, h2, h4]
  simp
theorem sat_del {k : Int} {s z : Nat} {t : Trust} (h : has z k = true) : sat z (del k s t) = sat (z ||| s) t := by
  unfold del
  split
  · rename_i h0; rw [sat_one h, zero_sat h0]
  · exact sat_less s z t

/-- A set is a quorum after the deletion exactly if each of its nodes is content with it and what is gone. -/
theorem quorum_del {s y : Nat} {c : Config} (hy : y < 1024) (hys : ∀ i, y.testBit i = true → s.testBit i = false) :
    Quorum (delC s c) y ↔ y ≠ 0 ∧ Sub y (decl c) ∧ ∀ k, y.testBit k = true → sat (y ||| s) (tr c k) = true := by
  unfold Quorum
  have hsub : Sub y (decl (delC s c)) ↔ Sub y (decl c) :=
    ⟨fun h i hi => (testBit_decl_del.1 (h i hi)).1, fun h i hi => testBit_decl_del.2 ⟨h i hi, hys i hi⟩⟩
  rw [hsub]
  constructor
  · rintro ⟨h0, h1, h2⟩
    refine ⟨h0, h1, fun k hk => ?_⟩
    have := h2 k hk
    rwa [tr_del ((hsub.2 h1) k hk), sat_del (by rw [has_nat (bit_lt_of hy hk)]; exact hk)] at this
  · rintro ⟨h0, h1, h2⟩
    refine ⟨h0, h1, fun k hk => ?_⟩
    rw [tr_del ((hsub.2 h1) k hk), sat_del (by rw [has_nat (bit_lt_of hy hk)]; exact hk)]
    exact h2 k hk
end Go.Proofs.YtfemjbmfpnpjfaaDoor
