/- Errors of trusts and configurations: the program and the reference agree. -/
import Derived.Test.YtfjcndlhpfbcgaaP16Same
import Derived.Test.YtfjcndlhpfbcgaaP16Prog
import Derived.Test.YtfjcndlhpfbcgaaP16Quor
namespace Go.Proofs.Ytfjcndlhpfbcgaa
open Go Go.Ab
def ofE (s : Nat) : List Int → Int
  | [] => 0
  | k :: r => if inR k = true then (if has s k = true then 6 else ofE (s ||| bit k) r) else 5
theorem ofE_fresh : ∀ (l : List Int) (s : Nat), ofE s l = 0 ↔ fresh s l = true
  | [], s => by simp [ofE, fresh]
  | k :: r, s => by
    have := ofE_fresh r (s ||| bit k)
    by_cases h1 : inR k = true <;> by_cases h2 : has s k = true <;> simp [ofE, fresh, h1, h2, this]
theorem not_inR {y : Int} (h : ¬ inR y = true) : ¬ (0 ≤ y ∧ y < 10) := by simpa [inR] using h
theorem pofE_l1 (xs : List Int) (hl : xs.length < 1152921504606846976) : ∀ (suf : List Int) (i s : Nat), xs.drop i = suf → s < 1024 →
    ∃ v, z2b (s : Int) xs ((xs.length : Nat) : Int) (i : Int) = some (v, ofE s suf)
  | [], i, s, h, hs => ⟨s, by
      apply z2b_le
      simp only [ltB_end h, cond_false, ofE]⟩
  | y :: suf, i, s, h, hs => by
    have hlt := lt_drop h
    by_cases hy : inR y = true
    · have hy' := hy
      simp only [inR, Bool.and_eq_true, decide_eq_true_eq] at hy'
      cases hh : has s y with
      | true =>
        refine ⟨0, ?_⟩
        apply z2b_le
        simp only [ltB_drop h, cond_true, nth_drop h, ltB_false hy'.1, leB_false hy'.2, cond_false, nodeset_Has_ok hs, hh, Option.bind_some, ofE, hy, if_true]
      | false =>
        have hb := bit_lt hy
        obtain ⟨v, h1⟩ := pofE_l1 xs hl suf (i + 1) (s ||| bit y) (drop_next h) (Nat.or_lt_two_pow (n := 10) hs hb)
        refine ⟨v, ?_⟩
        apply z2b_le
        simp only [ltB_drop h, cond_true, nth_drop h, ltB_false hy'.1, leB_false hy'.2, cond_false, nodeset_Has_ok hs, hh, Option.bind_some, chk_true hy'.1, shl_bit hy, orI_nat (show s < 2 ^ 62 by omega) (show bit y < 2 ^ 62 by omega), next_nat (show i < 4611686018427387904 by omega), ofE, hy, if_true]
        exact h1
    · have hn := not_inR hy
      refine ⟨0, ?_⟩
      apply z2b_le
      simp only [ltB_drop h, cond_true, nth_drop h, ofE, hy]
      by_cases h0 : y < 0
      · simp only [ltB_true h0, cond_true]; rfl
      · simp only [ltB_false (Int.not_lt.1 h0), cond_false, leB_true (show 10 ≤ y by omega), cond_true]; rfl
theorem pofE_ok (xs : List Int) (hl : xs.length < 1152921504606846976) : ∃ v, z3x xs = some (v, ofE 0 xs) := by
  obtain ⟨v, h1⟩ := pofE_l1 xs hl xs 0 0 rfl (by decide)
  exact ⟨v, z3x_le _ _ h1⟩
mutual
def lev : Trust → Int
  | ⟨thr, nodes, inner⟩ => if 1 ≤ thr ∧ thr ≤ ((nodes.length + inner.length : Nat) : Int) then (if nodes.all inR = true then (if ofE 0 nodes = 0 then levs inner else ofE 0 nodes) else 5) else 4
def levs : List Trust → Int
  | [] => 0
  | x :: r => if lev x = 0 then levs r else lev x
end
theorem lev_eq (t : Trust) : lev t = if 1 ≤ t.Threshold ∧ t.Threshold ≤ ((t.Nodes.length + t.Inner.length : Nat) : Int) then (if t.Nodes.all inR = true then (if ofE 0 t.Nodes = 0 then levs t.Inner else ofE 0 t.Nodes) else 5) else 4 := by cases t; simp only [lev]
theorem lev_good : ∀ t : Trust, lev t = 0 ↔ good t = true := by
  apply Trust.ind
  intro t ih
  have hi : ∀ l : List Trust, (∀ x ∈ l, (lev x = 0 ↔ good x = true)) → (levs l = 0 ↔ goods l = true) := by
    intro l
    induction l with
    | nil => intro _; simp [levs, goods]
    | cons y r ihr =>
      intro h
      have h1 := h y (by simp)
      have h2 := ihr fun x hx => h x (by simp [hx])
      by_cases hy : lev y = 0
      · simp [levs, goods, hy, h1.1 hy, h2]
      · have : good y = false := by
          cases hg : good y with
          | true => exact absurd (h1.2 hg) hy
          | false => rfl
        simp [levs, goods, hy, this]
  have hin := hi t.Inner ih
  have hf := ofE_fresh t.Nodes 0
  rw [lev_eq, good_eq]
  by_cases h1 : 1 ≤ t.Threshold <;> by_cases h2 : t.Threshold ≤ ((t.Nodes.length + t.Inner.length : Nat) : Int)
  · rw [if_pos ⟨h1, h2⟩, decide_eq_true h1, decide_eq_true h2]
    by_cases h3 : t.Nodes.all inR = true
    · rw [if_pos h3, h3]
      by_cases h4 : ofE 0 t.Nodes = 0
      · rw [if_pos h4, hf.1 h4, hin]; simp
      · rw [if_neg h4]
        have : fresh 0 t.Nodes = false := by
          cases hg : fresh 0 t.Nodes with
          | true => exact absurd (hf.2 hg) h4
          | false => rfl
        simp [this, h4]
    · rw [if_neg h3]
      have h3' : t.Nodes.all inR = false := by simpa using h3
      simp [h3']
  · rw [if_neg (fun h => h2 h.2), decide_eq_false h2]; simp
  · rw [if_neg (fun h => h1 h.1), decide_eq_false h1]; simp
  · rw [if_neg (fun h => h1 h.1), decide_eq_false h1]; simp
theorem plev_idx (xs : List Int) (hl : xs.length < 1152921504606846976) : ∀ (suf : List Int) (i : Nat), xs.drop i = suf →
    ∃ k : Int, z0f xs ((xs.length : Nat) : Int) (i : Int) = some k ∧ leB 0 k = !(suf.all inR)
  | [], i, h => by
    refine ⟨-1, ?_, rfl⟩
    apply z0f_le
    rw [ltB_end h]; rfl
  | y :: suf, i, h => by
    have hlt := lt_drop h
    have h1 : z34 y = some (!inR y) := by
      apply z34_le
      rw [pnode_ok]; rfl
    cases hy : inR y with
    | true =>
      obtain ⟨k, g1, g2⟩ := plev_idx xs hl suf (i + 1) (drop_next h)
      refine ⟨k, ?_, by simpa [hy] using g2⟩
      apply z0f_le
      simp only [ltB_drop h, cond_true, nth_drop h, h1, Option.bind_some, hy, Bool.not_true, cond_false, next_nat (show i < 4611686018427387904 by omega)]
      exact g1
    | false =>
      refine ⟨i, ?_, by rw [leB_true (by omega)]; simp [hy]⟩
      apply z0f_le
      simp only [ltB_drop h, cond_true, nth_drop h, h1, Option.bind_some, hy, Bool.not_false]
theorem plev_contains (xs : List Int) (hl : xs.length < 1152921504606846976) : z16 xs = some (!(xs.all inR)) := by
  obtain ⟨k, g1, g2⟩ := plev_idx xs hl xs 0 rfl
  apply z16_le
  rw [z1f_le _ _ g1]
  simp only [Option.bind_some, g2]
theorem plev_ok : ∀ t : Trust, Small t → z2y t = some (lev t) := by
  apply Trust.ind
  intro t ih ht
  have hn := ht.nodes
  have hi := ht.inner
  have hs : size t < 1152921504606846976 := ht
  rw [size_eq] at hs
  have l2 : ∀ (suf : List Trust) (i : Nat), t.Inner.drop i = suf → z24 t.Inner ((t.Inner.length : Nat) : Int) (i : Int) t.Threshold t.Nodes t.Inner = some (levs suf) := by
    intro suf
    induction suf with
    | nil =>
      intro i h
      apply z24_le
      simp only [ltB_end h, cond_false, levs]
    | cons y suf ihs =>
      intro i h
      have hlt := lt_drop h
      have hy : y ∈ t.Inner := List.mem_of_mem_drop (by rw [h]; exact List.mem_cons_self)
      have h1 := ih y hy (ht.mem hy)
      apply z24_le
      simp only [ltB_drop h, cond_true, nth_drop h, h1, Option.bind_some, levs]
      by_cases he : lev y = 0
      · rw [if_pos he, he, neB_self, next_nat (show i < 4611686018427387904 by omega), ihs (i + 1) (drop_next h)]; rfl
      · rw [if_neg he, neB_ne he]; rfl
  rw [lev_eq]
  apply z2y_le
  by_cases h1 : 1 ≤ t.Threshold
  · by_cases h2 : t.Threshold ≤ ((t.Nodes.length + t.Inner.length : Nat) : Int)
    · rw [if_pos ⟨h1, h2⟩, ltB_false h1, addI64 (by omega) (by omega), ltB_false (by omega), plev_contains t.Nodes hn]
      simp only [cond_false, Option.bind_some]
      cases ha : t.Nodes.all inR with
      | false => rfl
      | true =>
        obtain ⟨v, h3⟩ := pofE_ok t.Nodes hn
        rw [h3]
        simp only [Bool.not_true, cond_false, Option.bind_some, if_true]
        by_cases h0 : ofE 0 t.Nodes = 0
        · rw [if_pos h0, h0, neB_self]; exact l2 t.Inner 0 rfl
        · rw [if_neg h0, neB_ne h0]; rfl
    · rw [if_neg (fun h => h2 h.2), ltB_false h1, addI64 (by omega) (by omega), ltB_true (by omega)]
      simp only [cond_false, cond_true]
  · rw [if_neg (fun h => h1 h.1), ltB_true (by omega)]
    simp only [cond_true]
def verr (t : Trust) : Int := if depth t ≤ 4 ∧ size t ≤ 200 then lev t else 3
theorem verr_valid (t : Trust) : verr t = 0 ↔ valid t = true := by
  unfold verr valid
  have := lev_good t
  by_cases h1 : depth t ≤ 4 <;> by_cases h2 : size t ≤ 200 <;> simp [h1, h2, this]
theorem pverr_ok (t : Trust) (ht : Small t) : z3f t = some (verr t) := by
  have hs : size t < 1152921504606846976 := ht
  have hd := depth_le_size t
  apply z3f_le
  unfold verr
  rw [pdepth_ok t ht]
  simp only [Option.bind_some]
  by_cases h1 : depth t ≤ 4
  · rw [ltB_false (by omega), psize_ok t ht]
    simp only [cond_false, Option.bind_some]
    by_cases h2 : size t ≤ 200
    · rw [ltB_false (by omega), plev_ok t ht, if_pos ⟨h1, h2⟩]; rfl
    · rw [ltB_true (by omega), if_neg (fun h => h2 h.2)]; rfl
  · rw [ltB_true (by omega), if_neg (fun h => h1 h.1)]; rfl
def isBlank (t : Trust) : Bool := decide (t.Threshold = 0) && (t.Nodes.isEmpty && t.Inner.isEmpty)
theorem isBlank_iff {t : Trust} : isBlank t = true ↔ t = blank := by
  obtain ⟨a, b, c⟩ := t
  simp [isBlank, blank]
theorem pblank_ok {t : Trust} (ht : Small t) : z2i t = some (isBlank t) := by
  have hn := ht.nodes
  have hi := ht.inner
  apply z2i_le
  unfold isBlank
  by_cases h0 : t.Threshold = 0
  · rw [h0, eqB_self]
    cases hN : t.Nodes with
    | nil =>
      cases hI : t.Inner with
      | nil => rfl
      | cons y r =>
        rw [show eqB (((y :: r).length : Nat) : Int) 0 = false from eqB_ne (by simp; omega)]; rfl
    | cons y r =>
      rw [show eqB (((y :: r).length : Nat) : Int) 0 = false from eqB_ne (by simp; omega)]; rfl
  · rw [eqB_ne h0, decide_eq_false h0]; rfl
def memE (n : Nat) (m : Member) : Int :=
  if m.Declared = true then (if verr m.Trust = 0 then (if uses m.Trust < 2 ^ n then 0 else 5) else verr m.Trust) else if isBlank m.Trust = true then 0 else 1
def memsE (n : Nat) : List Member → Int
  | [] => 0
  | m :: r => if memE n m = 0 then memsE n r else memE n m
def cerr (c : Config) : Int := if c.Members.length ≤ 10 then memsE c.Members.length c.Members else 3
theorem pmemE (n : Nat) (hn : n ≤ 10) (m : Member) (hsm : Small m.Trust) : z2d m (n : Int) = some (memE n m) := by
  apply z2d_le
  unfold memE
  cases hd : m.Declared with
  | false =>
    simp only [Bool.not_false, cond_true]
    rw [pblank_ok hsm]
    cases isBlank m.Trust <;> rfl
  | true =>
    simp only [Bool.not_true, cond_false, if_true]
    rw [pverr_ok m.Trust hsm]
    simp only [Option.bind_some]
    by_cases hv : verr m.Trust = 0
    · have hu := uses_lt m.Trust
      have hp : 2 ^ n ≤ 1024 := Nat.pow_le_pow_right (n := 2) (by decide) hn
      rw [if_pos hv, hv, neB_self, chk_true (by omega), puses_ok m.Trust hsm, shl1 (by omega) (by omega), Int.toNat_natCast]
      simp only [cond_false, Option.bind_some]
      by_cases hb : uses m.Trust < 2 ^ n
      · rw [leB_false (by omega), if_pos hb]; rfl
      · rw [leB_true (by omega), if_neg hb]; rfl
    · rw [if_neg hv, neB_ne hv]; rfl
theorem pmemsE (ms : List Member) (hl : ms.length ≤ 10) (hs : ∀ m ∈ ms, Small m.Trust) : ∀ (suf : List Member) (i : Nat), ms.drop i = suf →
    z1o ms ((ms.length : Nat) : Int) (i : Int) ms = some (memsE ms.length suf)
  | [], i, h => by
    apply z1o_le
    rw [ltB_end h]
    rfl
  | m :: suf, i, h => by
    have hlt := lt_drop h
    have hm : m ∈ ms := List.mem_of_mem_drop (by rw [h]; exact List.mem_cons_self)
    have h1 := pmemsE ms hl hs suf (i + 1) (drop_next h)
    apply z1o_le
    rw [ltB_drop h, nth_drop h, pmemE ms.length hl m (hs m hm)]
    simp only [cond_true, memsE, Option.bind_some]
    by_cases he : memE ms.length m = 0
    · rw [if_pos he, he, neB_self, next_nat (by omega), h1]; rfl
    · rw [if_neg he, neB_ne he]; rfl
theorem pcerr_ok {c : Config} (h : SmallC c) : z21 c = some (cerr c) := by
  have := h.1
  apply z21_le
  unfold cerr
  by_cases hl : c.Members.length ≤ 10
  · rw [ltB_false (by omega), if_pos hl]
    exact pmemsE c.Members hl h.2 c.Members 0 rfl
  · rw [ltB_true (by omega), if_neg hl]; rfl
def MemV (n : Nat) (m : Member) : Prop := if m.Declared then valid m.Trust = true ∧ uses m.Trust < 2 ^ n else m.Trust = blank
def ValidC (c : Config) : Prop := c.Members.length ≤ 10 ∧ ∀ m ∈ c.Members, MemV c.Members.length m
theorem memE_iff {n : Nat} {m : Member} : memE n m = 0 ↔ MemV n m := by
  unfold memE MemV
  cases hd : m.Declared with
  | false =>
    simp only [Bool.false_eq_true, if_false]
    rw [← isBlank_iff]
    cases isBlank m.Trust <;> simp
  | true =>
    simp only [if_true]
    rw [← verr_valid]
    by_cases h1 : verr m.Trust = 0 <;> by_cases h2 : uses m.Trust < 2 ^ n <;> simp [h1, h2]
theorem memsE_iff {n : Nat} : ∀ {l : List Member}, memsE n l = 0 ↔ ∀ m ∈ l, MemV n m
  | [] => by simp [memsE]
  | m :: r => by
    have := @memsE_iff n r
    by_cases h : memE n m = 0
    · simp [memsE, h, this, memE_iff.1 h]
    · have : ¬ MemV n m := fun h' => h (memE_iff.2 h')
      simp [memsE, h, this]
theorem cerr_zero {c : Config} : cerr c = 0 ↔ ValidC c := by
  unfold cerr ValidC
  by_cases h : c.Members.length ≤ 10 <;> simp [h, memsE_iff]
theorem usesN_below {m : Nat} : ∀ {l : List Int}, (∀ x ∈ l, 0 ≤ x ∧ x < (m : Int)) → usesN l < 2 ^ m
  | [], _ => by simp only [usesN]; exact Nat.two_pow_pos m
  | k :: r, h => by
    simp only [usesN]
    have hk := h k (by simp)
    refine Nat.or_lt_two_pow ?_ (usesN_below fun x hx => h x (by simp [hx]))
    split
    · exact Nat.pow_lt_pow_right (a := 2) (by decide) (by omega)
    · exact Nat.two_pow_pos m
theorem below_all {m : Int} {l : List Int} (h : l.all (fun k => decide (0 ≤ k) && decide (k < m)) = true) : ∀ x ∈ l, 0 ≤ x ∧ x < m := by
  intro x hx
  have := List.all_eq_true.1 h x hx
  simpa using this
theorem uses_below {m : Nat} : ∀ t : Trust, below (m : Int) t = true → uses t < 2 ^ m := by
  apply Trust.ind
  intro t ih h
  rw [below_eq, Bool.and_eq_true] at h
  rw [uses_eq]
  refine Nat.or_lt_two_pow (usesN_below (below_all h.1)) ?_
  have : ∀ l : List Trust, belows (m : Int) l = true → (∀ x ∈ l, below (m : Int) x = true → uses x < 2 ^ m) → usesL l < 2 ^ m := by
    intro l
    induction l with
    | nil => intro _ _; simp only [usesL]; exact Nat.two_pow_pos m
    | cons y r ihr =>
      intro hb hx
      simp only [belows, Bool.and_eq_true] at hb
      simp only [usesL]
      exact Nat.or_lt_two_pow (hx y (by simp) hb.1) (ihr hb.2 fun x hxr => hx x (by simp [hxr]))
  exact this t.Inner h.2 ih
theorem ConfOk.valid {n : Nat} {c : Config} (h : ConfOk n c) (hn : n ≤ 10) : ValidC c := by
  refine ⟨by have := h.le; omega, fun m hm => ?_⟩
  have := h.mem m hm
  unfold MemOk at this
  unfold MemV
  split
  · rename_i hd
    simp only [hd, if_true] at this
    exact ⟨this.1, uses_below _ this.2⟩
  · rename_i hd
    simpa [hd] using this
end Go.Proofs.Ytfjcndlhpfbcgaa
