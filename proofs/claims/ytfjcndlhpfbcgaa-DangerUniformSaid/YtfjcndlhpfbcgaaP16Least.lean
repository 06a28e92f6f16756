/- The least sets of a list: both texts give those of which no other one is a proper subset, in order. -/
import Derived.Test.YtfjcndlhpfbcgaaP16Ord
namespace Go.Proofs.Ytfjcndlhpfbcgaa
open Go Go.Ab Go.Sort
def Mins (l : List Nat) (s : Nat) : Prop := s ∈ l ∧ ∀ t ∈ l, Sub t s → t = s
def LeastOf (l out : List Nat) : Prop := out.Pairwise nlt ∧ ∀ s, s ∈ out ↔ Mins l s
theorem LeastOf.unique {l l' out out' : List Nat} (h : LeastOf l out) (h' : LeastOf l' out') (he : ∀ s, Mins l s ↔ Mins l' s) : out = out' :=
  ord_unique h.1 h'.1 fun s => by rw [h.2, h'.2, he]
theorem LeastOf.lt {l out : List Nat} (h : LeastOf l out) (hl : ∀ s ∈ l, s < 1024) : ∀ s ∈ out, s < 1024 := fun s hs => hl s ((h.2 s).1 hs).1
theorem nodup_of_ord {l : List Nat} (h : l.Pairwise nlt) : l.Nodup := h.imp (fun {a b} h e => by subst e; exact nlt_irrefl _ h)
theorem ord_len {l : List Nat} (h : l.Pairwise nlt) (hl : ∀ s ∈ l, s < 1024) : l.length ≤ 1024 := by
  have key : ∀ (n : Nat) (l : List Nat), l.Nodup → (∀ s ∈ l, s < n) → l.length ≤ n := by
    intro n
    induction n with
    | zero => intro l _ h; cases l with
      | nil => simp
      | cons x r => have := h x (by simp); omega
    | succ n ih =>
      intro l hn h
      have h1 := ih (l.erase n) (hn.erase n) (fun s hs => by
        have := h s (List.mem_of_mem_erase hs)
        have hne : s ≠ n := fun e => by subst e; exact (List.Nodup.not_mem_erase hn) hs
        omega)
      by_cases hm : n ∈ l
      · rw [List.length_erase_of_mem hm] at h1; omega
      · rw [List.erase_of_not_mem hm] at h1; omega
  exact key 1024 l (nodup_of_ord h) hl
theorem clone_ok (xs : List Int) (hl : xs.length ≤ 1073741824) : z27 xs = some ((), xs) := by
  apply z27_le
  rw [capOk_true (by simp [maxElems]; exact hl)]
  simp
theorem nl1_ok {n : Nat} (h : n < 1024) : z3h (n : Int) = some false := by
  apply z3h_le
  rw [nvalid_ok, okS_nat h]; rfl
theorem idx1_ok (l : List Nat) (hl : l.length < 4611686018427387904) (h : ∀ s ∈ l, s < 1024) : ∀ (suf : List Nat) (i : Nat), l.drop i = suf →
    z0o ((l.length : Nat) : Int) (i : Int) (l.map Int.ofNat) = some (-1, l.map Int.ofNat)
  | [], i, hd => by
    apply z0o_le
    rw [ltB_end hd]
    rfl
  | y :: suf, i, hd => by
    have hlt := lt_drop hd
    have hm : (l.map Int.ofNat).drop i = (y : Int) :: suf.map Int.ofNat := by rw [← List.map_drop, hd]; rfl
    have hg : (l.map Int.ofNat)[i]? = some (y : Int) := by
      have := congrArg List.head? hm
      rw [List.head?_drop] at this; simpa using this
    apply z0o_le
    rw [ltB_drop hd]
    simp only [cond_true, nth_drop hm, Int.toNat_natCast]
    rw [nthN_get hg, nl1_ok (h y (List.mem_of_mem_drop (by rw [hd]; simp)))]
    simp only [Option.bind_some, cond_false]
    rw [next_nat (by omega)]
    exact idx1_ok l hl h suf (i + 1) (drop_next hd)
theorem delete_ok (l : List Nat) (hl : l.length < 4611686018427387904) (h : ∀ s ∈ l, s < 1024) : z18 (l.map Int.ofNat) = some ((), l.map Int.ofNat) := by
  apply z18_le
  have h1 : z19 (l.map Int.ofNat) = some (-1, l.map Int.ofNat) := by
    apply z19_le
    rw [List.length_map]
    exact idx1_ok l hl h l 0 rfl
  rw [h1]
  simp only [Option.bind_some, eqB_self, cond_true]
def subB (t s : Nat) : Bool := ndiff t s == 0
theorem subB_iff {t s : Nat} : subB t s = true ↔ Sub t s := by
  unfold subB
  rw [beq_iff_eq]
  constructor
  · intro h i hi
    have := congrArg (fun n => n.testBit i) h
    simp only [testBit_ndiff, Nat.zero_testBit, hi, Bool.true_and, Bool.not_eq_false'] at this
    exact this
  · intro h
    apply Nat.eq_of_testBit_eq
    intro i
    rw [testBit_ndiff, Nat.zero_testBit]
    cases ht : t.testBit i with
    | false => rfl
    | true => rw [h i ht]; rfl
theorem nl2_ok {t s : Nat} (ht : t < 1024) (hs : s < 1024) : z3i (t : Int) (s : Int) = some (subB t s, (s : Int)) := by
  apply z3i_le
  rw [andNotI_nat (by omega) (by omega)]
  unfold subB
  by_cases h : ndiff t s = 0
  · rw [h, Int.natCast_zero, eqB_self]; rfl
  · rw [eqB_ne (by omega)]; simp [h]
theorem idx2_ok (l : List Nat) (hl : l.length < 4611686018427387904) (h : ∀ s ∈ l, s < 1024) {s : Nat} (hs : s < 1024) : ∀ (suf : List Nat) (i : Nat), l.drop i = suf →
    ∃ k : Int, z0j (l.map Int.ofNat) ((l.length : Nat) : Int) (i : Int) (s : Int) = some (k, (s : Int)) ∧ leB 0 k = suf.any fun t => subB t s
  | [], i, hd => by
    refine ⟨-1, ?_, rfl⟩
    apply z0j_le
    rw [ltB_end hd]
    rfl
  | y :: suf, i, hd => by
    have hlt := lt_drop hd
    have hm : (l.map Int.ofNat).drop i = (y : Int) :: suf.map Int.ofNat := by rw [← List.map_drop, hd]; rfl
    have hy := h y (List.mem_of_mem_drop (by rw [hd]; simp))
    cases hb : subB y s with
    | true =>
      refine ⟨(i : Int), ?_, ?_⟩
      · apply z0j_le
        rw [ltB_drop hd]
        simp only [cond_true, nth_drop hm]
        rw [nl2_ok hy hs, hb]
        rfl
      · rw [leB_true (by omega)]; simp [hb]
    | false =>
      obtain ⟨k, h1, h2⟩ := idx2_ok l hl h hs suf (i + 1) (drop_next hd)
      refine ⟨k, ?_, by rw [h2]; simp [hb]⟩
      apply z0j_le
      rw [ltB_drop hd]
      simp only [cond_true, nth_drop hm]
      rw [nl2_ok hy hs, hb]
      simp only [Option.bind_some, cond_false]
      rw [next_nat (by omega)]
      exact h1
theorem contains2_ok (l : List Nat) (hl : l.length < 4611686018427387904) (h : ∀ s ∈ l, s < 1024) {s : Nat} (hs : s < 1024) :
    z12 (l.map Int.ofNat) (s : Int) = some (l.any (fun t => subB t s), (s : Int)) := by
  apply z12_le
  obtain ⟨k, h1, h2⟩ := idx2_ok l hl h hs l 0 rfl
  have h3 : z1c (l.map Int.ofNat) (s : Int) = some (k, (s : Int)) := by
    apply z1c_le
    rw [List.length_map]
    exact h1
  rw [h3]
  simp only [Option.bind_some, h2]
def keep (s : Nat) (out : List Nat) : List Nat := if out.any fun t => subB t s then out else out ++ [s]
def keepAll : List Nat → List Nat → List Nat
  | out, [] => out
  | out, s :: r => keepAll (keep s out) r
theorem keep_mem {s : Nat} {out : List Nat} : ∀ t ∈ keep s out, t ∈ out ∨ t = s := fun t ht => by
  unfold keep at ht
  split at ht
  · exact .inl ht
  · rcases List.mem_append.1 ht with h | h
    · exact .inl h
    · exact .inr (List.mem_singleton.1 h)
theorem keep_len (s : Nat) (out : List Nat) : (keep s out).length ≤ out.length + 1 := by
  unfold keep; split <;> simp
theorem keep_l2 (l : List Nat) (hl : l.length < 1000000) (h : ∀ s ∈ l, s < 1024) : ∀ (suf out : List Nat) (i : Nat), l.drop i = suf → out.length ≤ i → (∀ s ∈ out, s < 1024) →
    z1v (out.map Int.ofNat) (l.map Int.ofNat) ((l.length : Nat) : Int) (i : Int) = some ((keepAll out suf).map Int.ofNat)
  | [], out, i, hd, ho, hm => by
    apply z1v_le
    rw [ltB_end hd]
    rfl
  | y :: suf, out, i, hd, ho, hm => by
    have hlt := lt_drop hd
    have hmm : (l.map Int.ofNat).drop i = (y : Int) :: suf.map Int.ofNat := by rw [← List.map_drop, hd]; rfl
    have hy := h y (List.mem_of_mem_drop (by rw [hd]; simp))
    have ih := keep_l2 l hl h suf (keep y out) (i + 1) (drop_next hd) (Nat.le_trans (keep_len y out) (by omega)) (fun s hs => (keep_mem s hs).elim (hm s) (fun e => e ▸ hy))
    apply z1v_le
    rw [ltB_drop hd]
    simp only [cond_true, nth_drop hmm]
    rw [contains2_ok out (by omega) hm hy]
    simp only [Option.bind_some, keepAll]
    unfold keep at ih ⊢
    rw [next_nat (by omega)]
    cases hb : out.any fun t => subB t y with
    | true =>
      rw [hb] at ih
      simpa using ih
    | false =>
      rw [hb] at ih
      simp only [Bool.not_false, cond_true, Bool.false_eq_true, if_false] at ih ⊢
      rw [capOk_true (by simp [maxElems]; omega)]
      simpa using ih
theorem keep_l1 (l : List Nat) (hl : l.length < 1000000) (h : ∀ s ∈ l, s < 1024) : z3d [] (l.map Int.ofNat) ((l.length : Nat) : Int) 0 = some ((keepAll [] l).map Int.ofNat) := by
  apply z3d_le
  have := keep_l2 l hl h l [] 0 rfl (Nat.le_refl _) (by simp)
  cases l with
  | nil => rfl
  | cons y r =>
    have hy := h y (by simp)
    rw [ltB_true (by simp only [List.length_cons]; omega)]
    simp only [cond_true]
    rw [nth_get (by decide) (show ((y :: r).map Int.ofNat)[(0 : Int).toNat]? = some (y : Int) from rfl)]
    have hc := contains2_ok [] (by simp) (by simp) hy
    rw [List.map_nil] at hc
    rw [hc]
    simp only [Option.bind_some, List.any_nil, Bool.not_false, cond_true]
    rw [capOk_true (by simp [maxElems])]
    have h2 := keep_l2 (y :: r) hl h r [y] 1 rfl (by simp) (by simpa using hy)
    rw [show addI .i64 0 1 = ((1 : Nat) : Int) from rfl]
    rw [show ([] ++ [(y : Int)] : List Int) = [y].map Int.ofNat from rfl, h2]
    simp only [keepAll]
    rfl
theorem keep_least : ∀ (suf pre out : List Nat), (∀ s ∈ pre ++ suf, s < 1024) → (pre ++ suf).Pairwise (fun a b => ¬ nlt b a) → out.Pairwise nlt → (∀ s ∈ out, Mins pre s) → (∀ x ∈ pre, ∃ t ∈ out, Sub t x) → LeastOf (pre ++ suf) (keepAll out suf)
  | [], pre, out, hlt, hs, ho, hm, hc => by
    rw [List.append_nil]
    refine ⟨ho, fun s => ⟨hm s, fun h => ?_⟩⟩
    obtain ⟨t, ht, hts⟩ := hc s h.1
    rw [← h.2 t (hm t ht).1 hts]; exact ht
  | y :: suf, pre, out, hlt, hs, ho, hm, hc => by
    have e : pre ++ y :: suf = (pre ++ [y]) ++ suf := by simp
    rw [e] at hlt hs ⊢
    have hy : y < 1024 := hlt y (by simp)
    have hord : ∀ x ∈ pre, ¬ nlt y x := by
      have := (List.pairwise_append.1 (List.pairwise_append.1 hs).1).2.2
      exact fun x hx => this x hx y (by simp)
    have hpre : ∀ x ∈ pre, x < 1024 := fun x hx => hlt x (by simp [hx])
    -- those that were least stay so
    have hm' : ∀ s ∈ out, Mins (pre ++ [y]) s := fun s hso => by
      obtain ⟨h1, h2⟩ := hm s hso
      refine ⟨by simp [h1], fun t ht hts => ?_⟩
      rcases List.mem_append.1 ht with ht | ht
      · exact h2 t ht hts
      · rw [List.mem_singleton] at ht
        subst ht
        by_cases he : t = s
        · exact he
        · exact absurd (nlt_of_sub hy (hpre s h1) hts he) (hord s h1)
    simp only [keepAll]
    refine keep_least suf (pre ++ [y]) (keep y out) hlt hs ?_ ?_ ?_
    · unfold keep
      split
      · exact ho
      · rename_i hb
        rw [List.pairwise_append]
        refine ⟨ho, by simp, fun a ha b hb' => ?_⟩
        rw [List.mem_singleton] at hb'
        subst hb'
        rcases nlt_total a b with h | h | h
        · exact h
        · subst h
          exact (hb (List.any_eq_true.2 ⟨_, ha, subB_iff.2 (Sub.refl _)⟩)).elim
        · exact absurd h (hord a (hm a ha).1)
    · intro s hsk
      unfold keep at hsk
      split at hsk
      · exact hm' s hsk
      · rename_i hb
        rcases List.mem_append.1 hsk with h | h
        · exact hm' s h
        · rw [List.mem_singleton] at h
          subst h
          refine ⟨by simp, fun t ht hts => ?_⟩
          rcases List.mem_append.1 ht with ht | ht
          · obtain ⟨u, hu, hut⟩ := hc t ht
            exact (hb (List.any_eq_true.2 ⟨u, hu, subB_iff.2 (hut.trans hts)⟩)).elim
          · exact List.mem_singleton.1 ht
    · intro x hx
      have hsub : ∀ t ∈ out, t ∈ keep y out := fun t ht => by unfold keep; split; exact ht; simp [ht]
      rcases List.mem_append.1 hx with hx | hx
      · obtain ⟨t, ht, htx⟩ := hc x hx
        exact ⟨t, hsub t ht, htx⟩
      · rw [List.mem_singleton] at hx
        subst hx
        by_cases hb : (out.any fun t => subB t x) = true
        · obtain ⟨t, ht, hts⟩ := List.any_eq_true.1 hb
          exact ⟨t, hsub t ht, subB_iff.1 hts⟩
        · exact ⟨x, by unfold keep; rw [if_neg hb]; simp, Sub.refl x⟩
theorem ints_of_perm {l : List Nat} {ys : List Int} (h : ys.Perm (l.map Int.ofNat)) : ∃ zs : List Nat, ys = zs.map Int.ofNat ∧ zs.Perm l := by
  refine ⟨ys.map Int.toNat, ?_, ?_⟩
  · rw [List.map_map]
    symm
    have : ∀ y ∈ ys, (Int.ofNat ∘ Int.toNat) y = y := fun y hy => by
      obtain ⟨n, _, rfl⟩ := List.mem_map.1 (h.mem_iff.1 hy)
      rfl
    rw [List.map_congr_left this]; simp
  · have := h.map Int.toNat
    rw [List.map_map] at this
    have e : l.map (Int.toNat ∘ Int.ofNat) = l := by
      have : ∀ y ∈ l, (Int.toNat ∘ Int.ofNat) y = y := fun y _ => rfl
      rw [List.map_congr_left this]; simp
    rwa [e] at this
theorem sortS_ok (l : List Nat) (hl : l.length < 65536) (h : ∀ s ∈ l, s < 1024) :
    ∃ zs : List Nat, z0e (l.map Int.ofNat) = some (zs.map Int.ofNat) ∧ zs.Perm l ∧ zs.Pairwise fun a b => ¬ nlt b a := by
  obtain ⟨ys, h1, h2, h3⟩ := sort_ok ncmp_ok ncmp_swo (l.map Int.ofNat) (by simpa using hl)
  obtain ⟨zs, rfl, h4⟩ := ints_of_perm h2
  refine ⟨zs, h1, h4, ?_⟩
  rw [List.pairwise_map] at h3
  refine List.Pairwise.imp_of_mem (fun {a b} ha hb hab => ?_) h3
  intro hn
  have ha' := h a (h4.mem_iff.1 ha)
  have hb' := h b (h4.mem_iff.1 hb)
  have := (ncmp_nat hb' ha').2 hn
  have h5 : ltB (ncmp (b : Int) (a : Int)) 0 = false := hab
  rw [this] at h5; cases h5
theorem Mins.perm {l l' : List Nat} (h : ∀ s, s ∈ l ↔ s ∈ l') (s : Nat) : Mins l s ↔ Mins l' s := by
  unfold Mins; rw [h]; simp only [h]
theorem nleast_ok (l : List Nat) (hl : l.length < 65536) (h : ∀ s ∈ l, s < 1024) : ∃ out, z2h (l.map Int.ofNat) = some (out.map Int.ofNat) ∧ LeastOf l out := by
  obtain ⟨zs, h1, h2, h3⟩ := sortS_ok l hl h
  have hz : ∀ s ∈ zs, s < 1024 := fun s hs => h s (h2.mem_iff.1 hs)
  refine ⟨keepAll [] zs, ?_, ?_⟩
  · apply z2h_le
    rw [clone_ok _ (by simp; omega)]
    simp only [Option.bind_some]
    rw [delete_ok l (by omega) h]
    simp only [Option.bind_some]
    rw [h1]
    simp only [Option.bind_some, List.length_map]
    exact keep_l1 zs (by rw [h2.length_eq]; omega) hz
  · have := keep_least zs [] [] (by simpa using hz) (by simpa using h3) (by simp) (by simp) (by simp)
    rw [List.nil_append] at this
    exact ⟨this.1, fun s => by rw [this.2, Mins.perm (fun s => h2.mem_iff)]⟩
end Go.Proofs.Ytfjcndlhpfbcgaa
