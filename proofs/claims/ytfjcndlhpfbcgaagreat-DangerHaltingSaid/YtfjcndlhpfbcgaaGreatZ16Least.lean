/- The least sets of a list: both texts give those of which no other one is a proper subset, in order. -/
import Derived.Test.YtfjcndlhpfbcgaaGreatZ16Ord
namespace Go.Proofs.YtfjcndlhpfbcgaaGreat
open Go Go.Ab Go.Sort
def Mins (l : List Nat) (s : Nat) : Prop := s ∈ l ∧ ∀ t ∈ l, Sub t s → t = s
def LeastOf (l out : List Nat) : Prop := out.Pairwise nlt ∧ ∀ s, s ∈ out ↔ Mins l s
theorem LeastOf.unique {l l' out out' : List Nat} (h : LeastOf l out) (h' : LeastOf l' out') (he : ∀ s, Mins l s ↔ Mins l' s) : out = out' :=
  q9j h.1 h'.1 fun s => by rw [h.2, h'.2, he]
theorem LeastOf.lt {l out : List Nat} (h : LeastOf l out) (hl : ∀ s ∈ l, s < 1024) : ∀ s ∈ out, s < 1024 := fun s hs => hl s ((h.2 s).1 hs).1
theorem qlk {l : List Nat} (h : l.Pairwise nlt) : l.Nodup := h.imp (fun {a b} h e => by subst e; exact q3a _ h)
theorem qct {l : List Nat} (h : l.Pairwise nlt) (hl : ∀ s ∈ l, s < 1024) : l.length ≤ 1024 := by
  have key : ∀ (n : Nat) (l : List Nat), l.Nodup → (∀ s ∈ l, s < n) → l.length ≤ n := by
    intro n
    induction n with
    | zero => intro l _ h; cases l with
      | nil => simp
      | cons x r => have := h x (by simp); omega
    | succ n ih =>
      intro l hn h
      have h1 := ih (l.erase n) (hn.erase n) (fun s hs => by
        have := h s (List.mem_of_mem_erase hs)
        have hne : s ≠ n := fun e => by subst e; exact (List.Nodup.not_mem_erase hn) hs
        omega)
      by_cases hm : n ∈ l
      · rw [List.length_erase_of_mem hm] at h1; omega
      · rw [List.erase_of_not_mem hm] at h1; omega
  exact key 1024 l (qlk h) hl
theorem qw2 (xs : List Int) (hl : xs.length ≤ 1073741824) : z38 xs = some ((), xs) := by
  apply y3t
  rw [q09 (by simp [q0g]; exact hl)]
  simp
theorem y2y {n : Nat} (h : n < 1024) : z5s (n : Int) = some false := by
  apply y3x
  rw [q5d, q48 h]; rfl
theorem qub (l : List Nat) (hl : l.length < 4611686018427387904) (h : ∀ s ∈ l, s < 1024) : ∀ (suf : List Nat) (i : Nat), l.drop i = suf →
    z0o ((l.length : Nat) : Int) (i : Int) (l.map Int.ofNat) = some (-1, l.map Int.ofNat)
  | [], i, hd => by
    apply qy1
    rw [q0l hd]
    rfl
  | y :: suf, i, hd => by
    have hlt := q0k hd
    have hm : (l.map Int.ofNat).drop i = (y : Int) :: suf.map Int.ofNat := by rw [← List.map_drop, hd]; rfl
    have hg : (l.map Int.ofNat)[i]? = some (y : Int) := by
      have := congrArg List.head? hm
      rw [List.head?_drop] at this; simpa using this
    apply qy1
    rw [q0e hd]
    simp only [cond_true, q0d hm, Int.toNat_natCast]
    rw [q39 hg, y2y (h y (List.mem_of_mem_drop (by rw [hd]; simp)))]
    simp only [Option.bind_some, cond_false]
    rw [q04 (by omega)]
    exact qub l hl h suf (i + 1) (q08 hd)
theorem qu0 (l : List Nat) (hl : l.length < 4611686018427387904) (h : ∀ s ∈ l, s < 1024) : z17 (l.map Int.ofNat) = some ((), l.map Int.ofNat) := by
  apply y2v
  have h1 : z18 (l.map Int.ofNat) = some (-1, l.map Int.ofNat) := by
    apply y3i
    rw [List.length_map]
    exact qub l hl h l 0 rfl
  rw [h1]
  simp only [Option.bind_some, q0t, cond_true]
def subB (t s : Nat) : Bool := ndiff t s == 0
theorem q1t {t s : Nat} : subB t s = true ↔ Sub t s := by
  unfold subB
  rw [beq_iff_eq]
  constructor
  · intro h i hi
    have := congrArg (fun n => n.testBit i) h
    simp only [q0p, Nat.zero_testBit, hi, Bool.true_and, Bool.not_eq_false'] at this
    exact this
  · intro h
    apply Nat.eq_of_testBit_eq
    intro i
    rw [q0p, Nat.zero_testBit]
    cases ht : t.testBit i with
    | false => rfl
    | true => rw [h i ht]; rfl
theorem qzq {t s : Nat} (ht : t < 1024) (hs : s < 1024) : z5t (t : Int) (s : Int) = some (subB t s, (s : Int)) := by
  apply y69
  rw [q2y (by omega) (by omega)]
  unfold subB
  by_cases h : ndiff t s = 0
  · rw [h, Int.natCast_zero, q0t]; rfl
  · rw [q0z (by omega)]; simp [h]
theorem quj (l : List Nat) (hl : l.length < 4611686018427387904) (h : ∀ s ∈ l, s < 1024) {s : Nat} (hs : s < 1024) : ∀ (suf : List Nat) (i : Nat), l.drop i = suf →
    ∃ k : Int, z0j (l.map Int.ofNat) ((l.length : Nat) : Int) (i : Int) (s : Int) = some (k, (s : Int)) ∧ leB 0 k = suf.any fun t => subB t s
  | [], i, hd => by
    refine ⟨-1, ?_, rfl⟩
    apply qro
    rw [q0l hd]
    rfl
  | y :: suf, i, hd => by
    have hlt := q0k hd
    have hm : (l.map Int.ofNat).drop i = (y : Int) :: suf.map Int.ofNat := by rw [← List.map_drop, hd]; rfl
    have hy := h y (List.mem_of_mem_drop (by rw [hd]; simp))
    cases hb : subB y s with
    | true =>
      refine ⟨(i : Int), ?_, ?_⟩
      · apply qro
        rw [q0e hd]
        simp only [cond_true, q0d hm]
        rw [qzq hy hs, hb]
        rfl
      · rw [q0f (by omega)]; simp [hb]
    | false =>
      obtain ⟨k, h1, h2⟩ := quj l hl h hs suf (i + 1) (q08 hd)
      refine ⟨k, ?_, by rw [h2]; simp [hb]⟩
      apply qro
      rw [q0e hd]
      simp only [cond_true, q0d hm]
      rw [qzq hy hs, hb]
      simp only [Option.bind_some, cond_false]
      rw [q04 (by omega)]
      exact h1
theorem qdy (l : List Nat) (hl : l.length < 4611686018427387904) (h : ∀ s ∈ l, s < 1024) {s : Nat} (hs : s < 1024) :
    z12 (l.map Int.ofNat) (s : Int) = some (l.any (fun t => subB t s), (s : Int)) := by
  apply y5g
  obtain ⟨k, h1, h2⟩ := quj l hl h hs l 0 rfl
  have h3 : z1c (l.map Int.ofNat) (s : Int) = some (k, (s : Int)) := by
    apply y1r
    rw [List.length_map]
    exact h1
  rw [h3]
  simp only [Option.bind_some, h2]
def keep (s : Nat) (out : List Nat) : List Nat := if out.any fun t => subB t s then out else out ++ [s]
def q8d : List Nat → List Nat → List Nat
  | out, [] => out
  | out, s :: r => q8d (keep s out) r
theorem qvo {s : Nat} {out : List Nat} : ∀ t ∈ keep s out, t ∈ out ∨ t = s := fun t ht => by
  unfold keep at ht
  split at ht
  · exact .inl ht
  · rcases List.mem_append.1 ht with h | h
    · exact .inl h
    · exact .inr (List.mem_singleton.1 h)
theorem qwv (s : Nat) (out : List Nat) : (keep s out).length ≤ out.length + 1 := by
  unfold keep; split <;> simp
theorem qo2 (l : List Nat) (hl : l.length < 1000000) (h : ∀ s ∈ l, s < 1024) : ∀ (suf out : List Nat) (i : Nat), l.drop i = suf → out.length ≤ i → (∀ s ∈ out, s < 1024) →
    z2l (out.map Int.ofNat) (l.map Int.ofNat) ((l.length : Nat) : Int) (i : Int) = some ((q8d out suf).map Int.ofNat)
  | [], out, i, hd, ho, hm => by
    apply qxq
    rw [q0l hd]
    rfl
  | y :: suf, out, i, hd, ho, hm => by
    have hlt := q0k hd
    have hmm : (l.map Int.ofNat).drop i = (y : Int) :: suf.map Int.ofNat := by rw [← List.map_drop, hd]; rfl
    have hy := h y (List.mem_of_mem_drop (by rw [hd]; simp))
    have ih := qo2 l hl h suf (keep y out) (i + 1) (q08 hd) (Nat.le_trans (qwv y out) (by omega)) (fun s hs => (qvo s hs).elim (hm s) (fun e => e ▸ hy))
    apply qxq
    rw [q0e hd]
    simp only [cond_true, q0d hmm]
    rw [qdy out (by omega) hm hy]
    simp only [Option.bind_some, q8d]
    unfold keep at ih ⊢
    rw [q04 (by omega)]
    cases hb : out.any fun t => subB t y with
    | true =>
      rw [hb] at ih
      simpa using ih
    | false =>
      rw [hb] at ih
      simp only [Bool.not_false, cond_true, Bool.false_eq_true, if_false] at ih ⊢
      rw [q09 (by simp [q0g]; omega)]
      simpa using ih
theorem y1b (l : List Nat) (hl : l.length < 1000000) (h : ∀ s ∈ l, s < 1024) : z5l [] (l.map Int.ofNat) ((l.length : Nat) : Int) 0 = some ((q8d [] l).map Int.ofNat) := by
  apply y3k
  have := qo2 l hl h l [] 0 rfl (Nat.le_refl _) (by simp)
  cases l with
  | nil => rfl
  | cons y r =>
    have hy := h y (by simp)
    rw [q05 (by simp only [List.length_cons]; omega)]
    simp only [cond_true]
    rw [q10 (by decide) (show ((y :: r).map Int.ofNat)[(0 : Int).toNat]? = some (y : Int) from rfl)]
    have hc := qdy [] (by simp) (by simp) hy
    rw [List.map_nil] at hc
    rw [hc]
    simp only [Option.bind_some, List.any_nil, Bool.not_false, cond_true]
    rw [q09 (by simp [q0g])]
    have h2 := qo2 (y :: r) hl h r [y] 1 rfl (by simp) (by simpa using hy)
    rw [show addI .i64 0 1 = ((1 : Nat) : Int) from rfl]
    rw [show ([] ++ [(y : Int)] : List Int) = [y].map Int.ofNat from rfl, h2]
    simp only [q8d]
    rfl
theorem qh6 : ∀ (suf pre out : List Nat), (∀ s ∈ pre ++ suf, s < 1024) → (pre ++ suf).Pairwise (fun a b => ¬ nlt b a) → out.Pairwise nlt → (∀ s ∈ out, Mins pre s) → (∀ x ∈ pre, ∃ t ∈ out, Sub t x) → LeastOf (pre ++ suf) (q8d out suf)
  | [], pre, out, hlt, hs, ho, hm, hc => by
    rw [List.append_nil]
    refine ⟨ho, fun s => ⟨hm s, fun h => ?_⟩⟩
    obtain ⟨t, ht, hts⟩ := hc s h.1
    rw [← h.2 t (hm t ht).1 hts]; exact ht
  | y :: suf, pre, out, hlt, hs, ho, hm, hc => by
    have e : pre ++ y :: suf = (pre ++ [y]) ++ suf := by simp
    rw [e] at hlt hs ⊢
    have hy : y < 1024 := hlt y (by simp)
    have hord : ∀ x ∈ pre, ¬ nlt y x := by
      have := (List.pairwise_append.1 (List.pairwise_append.1 hs).1).2.2
      exact fun x hx => this x hx y (by simp)
    have hpre : ∀ x ∈ pre, x < 1024 := fun x hx => hlt x (by simp [hx])
    -- those that were least stay so
    have hm' : ∀ s ∈ out, Mins (pre ++ [y]) s := fun s hso => by
      obtain ⟨h1, h2⟩ := hm s hso
      refine ⟨by simp [h1], fun t ht hts => ?_⟩
      rcases List.mem_append.1 ht with ht | ht
      · exact h2 t ht hts
      · rw [List.mem_singleton] at ht
        subst ht
        by_cases he : t = s
        · exact he
        · exact absurd (qqa hy (hpre s h1) hts he) (hord s h1)
    simp only [q8d]
    refine qh6 suf (pre ++ [y]) (keep y out) hlt hs ?_ ?_ ?_
    · unfold keep
      split
      · exact ho
      · rename_i hb
        rw [List.pairwise_append]
        refine ⟨ho, by simp, fun a ha b hb' => ?_⟩
        rw [List.mem_singleton] at hb'
        subst hb'
        rcases qfn a b with h | h | h
        · exact h
        · subst h
          exact (hb (List.any_eq_true.2 ⟨_, ha, q1t.2 (Sub.refl _)⟩)).elim
        · exact absurd h (hord a (hm a ha).1)
    · intro s hsk
      unfold keep at hsk
      split at hsk
      · exact hm' s hsk
      · rename_i hb
        rcases List.mem_append.1 hsk with h | h
        · exact hm' s h
        · rw [List.mem_singleton] at h
          subst h
          refine ⟨by simp, fun t ht hts => ?_⟩
          rcases List.mem_append.1 ht with ht | ht
          · obtain ⟨u, hu, hut⟩ := hc t ht
            exact (hb (List.any_eq_true.2 ⟨u, hu, q1t.2 (hut.trans hts)⟩)).elim
          · exact List.mem_singleton.1 ht
    · intro x hx
      have hsub : ∀ t ∈ out, t ∈ keep y out := fun t ht => by unfold keep; split; exact ht; simp [ht]
      rcases List.mem_append.1 hx with hx | hx
      · obtain ⟨t, ht, htx⟩ := hc x hx
        exact ⟨t, hsub t ht, htx⟩
      · rw [List.mem_singleton] at hx
        subst hx
        by_cases hb : (out.any fun t => subB t x) = true
        · obtain ⟨t, ht, hts⟩ := List.any_eq_true.1 hb
          exact ⟨t, hsub t ht, q1t.1 hts⟩
        · exact ⟨x, by unfold keep; rw [if_neg hb]; simp, Sub.refl x⟩
theorem qm0 {l : List Nat} {ys : List Int} (h : ys.Perm (l.map Int.ofNat)) : ∃ zs : List Nat, ys = zs.map Int.ofNat ∧ zs.Perm l := by
  refine ⟨ys.map Int.toNat, ?_, ?_⟩
  · rw [List.map_map]
    symm
    have : ∀ y ∈ ys, (Int.ofNat ∘ Int.toNat) y = y := fun y hy => by
      obtain ⟨n, _, rfl⟩ := List.mem_map.1 (h.mem_iff.1 hy)
      rfl
    rw [List.map_congr_left this]; simp
  · have := h.map Int.toNat
    rw [List.map_map] at this
    have e : l.map (Int.toNat ∘ Int.ofNat) = l := by
      have : ∀ y ∈ l, (Int.toNat ∘ Int.ofNat) y = y := fun y _ => rfl
      rw [List.map_congr_left this]; simp
    rwa [e] at this
theorem qpl (l : List Nat) (hl : l.length < 65536) (h : ∀ s ∈ l, s < 1024) :
    ∃ zs : List Nat, z0e (l.map Int.ofNat) = some (zs.map Int.ofNat) ∧ zs.Perm l ∧ zs.Pairwise fun a b => ¬ nlt b a := by
  obtain ⟨ys, h1, h2, h3⟩ := y0e y05 qwk (l.map Int.ofNat) (by simpa using hl)
  obtain ⟨zs, rfl, h4⟩ := qm0 h2
  refine ⟨zs, h1, h4, ?_⟩
  rw [List.pairwise_map] at h3
  refine List.Pairwise.imp_of_mem (fun {a b} ha hb hab => ?_) h3
  intro hn
  have ha' := h a (h4.mem_iff.1 ha)
  have hb' := h b (h4.mem_iff.1 hb)
  have := (qjp hb' ha').2 hn
  have h5 : ltB (ncmp (b : Int) (a : Int)) 0 = false := hab
  rw [this] at h5; cases h5
theorem Mins.perm {l l' : List Nat} (h : ∀ s, s ∈ l ↔ s ∈ l') (s : Nat) : Mins l s ↔ Mins l' s := by
  unfold Mins; rw [h]; simp only [h]
theorem qks (l : List Nat) (hl : l.length < 65536) (h : ∀ s ∈ l, s < 1024) : ∃ out, z47 (l.map Int.ofNat) = some (out.map Int.ofNat) ∧ LeastOf l out := by
  obtain ⟨zs, h1, h2, h3⟩ := qpl l hl h
  have hz : ∀ s ∈ zs, s < 1024 := fun s hs => h s (h2.mem_iff.1 hs)
  refine ⟨q8d [] zs, ?_, ?_⟩
  · apply y4c
    rw [qw2 _ (by simp; omega)]
    simp only [Option.bind_some]
    rw [qu0 l (by omega) h]
    simp only [Option.bind_some]
    rw [h1]
    simp only [Option.bind_some, List.length_map]
    exact y1b zs (by rw [h2.length_eq]; omega) hz
  · have := qh6 zs [] [] (by simpa using hz) (by simpa using h3) (by simp) (by simp) (by simp)
    rw [List.nil_append] at this
    exact ⟨this.1, fun s => by rw [this.2, Mins.perm (fun s => h2.mem_iff)]⟩
def q2t (x : Nat) : Nat → Nat → List Nat → Nat
  | _, k, [] => k
  | i, k, y :: r => q2t x (i + 1) (if ltB (ncmp y x) 0 then i + 1 else k) r
theorem qap {x : Nat} (hx : x < 1024) : ∀ (suf pre : List Nat) (k : Nat), (pre ++ suf).Pairwise nlt → (∀ s ∈ pre ++ suf, s < 1024) → k ≤ pre.length → (∀ s ∈ pre.take k, nlt s x) → (∀ s ∈ pre.drop k, ¬ nlt s x) →
    q2t x pre.length k suf ≤ (pre ++ suf).length ∧ (∀ s ∈ (pre ++ suf).take (q2t x pre.length k suf), nlt s x) ∧ (∀ s ∈ (pre ++ suf).drop (q2t x pre.length k suf), ¬ nlt s x)
  | [], pre, k, hp, hlt, hk, h1, h2 => by simp only [q2t, List.append_nil]; exact ⟨hk, h1, h2⟩
  | y :: suf, pre, k, hp, hlt, hk, h1, h2 => by
    have e : pre ++ y :: suf = (pre ++ [y]) ++ suf := by simp
    have hy : y < 1024 := hlt y (by simp)
    have hb : ∀ s ∈ pre, nlt s y := fun s hs => (List.pairwise_append.1 hp).2.2 s hs y (by simp)
    simp only [q2t]
    rw [e] at hp hlt ⊢
    have hl : (pre ++ [y]).length = pre.length + 1 := by simp
    rw [← hl]
    by_cases hn : nlt y x
    · rw [(qjp hy hx).2 hn]
      simp only [if_true]
      refine qap hx suf (pre ++ [y]) _ hp hlt (Nat.le_refl _) (fun s hs => ?_) (fun s hs => ?_)
      · rw [List.take_length] at hs
        rcases List.mem_append.1 hs with h | h
        · exact q8o (hb s h) hn
        · rw [List.mem_singleton] at h; subst h; exact hn
      · rw [List.drop_length] at hs; cases hs
    · have hf : ltB (ncmp (y : Int) (x : Int)) 0 = false := by
        cases hc : ltB (ncmp (y : Int) (x : Int)) 0 with
        | false => rfl
        | true => exact absurd ((qjp hy hx).1 hc) hn
      rw [hf]
      simp only [Bool.false_eq_true, if_false]
      refine qap hx suf (pre ++ [y]) k hp hlt (by simp; omega) (fun s hs => ?_) (fun s hs => ?_)
      · rw [List.take_append_of_le_length hk] at hs; exact h1 s hs
      · rw [List.drop_append_of_le_length hk] at hs
        rcases List.mem_append.1 hs with h | h
        · exact h2 s h
        · rw [List.mem_singleton] at h; subst h; exact hn
theorem y5x (u v : List Int) (x : Int) :
    List.set (List.take (u.length + 1) (u ++ v ++ [0]) ++ List.take ((u ++ v ++ [(0 : Int)]).length - (u.length + 1)) (List.drop u.length (List.take (u ++ v ++ [(0 : Int)]).length (u ++ v ++ [0]))) ++
      List.drop (u.length + 1 + min ((u ++ v ++ [(0 : Int)]).length - (u.length + 1)) (List.drop u.length (List.take (u ++ v ++ [(0 : Int)]).length (u ++ v ++ [0]))).length) (u ++ v ++ [0])) u.length x = u ++ [x] ++ v := by
  rw [List.take_length]
  have e1 : List.drop u.length (u ++ v ++ [(0 : Int)]) = v ++ [0] := by rw [List.append_assoc, List.drop_left]
  rw [e1]
  have e2 : (u ++ v ++ [(0 : Int)]).length - (u.length + 1) = v.length := by simp; omega
  rw [e2, List.take_left]
  have e3 : min v.length (v ++ [(0 : Int)]).length = v.length := by simp
  rw [e3]
  have e4 : List.drop (u.length + 1 + v.length) (u ++ v ++ [(0 : Int)]) = [] := by
    rw [List.drop_eq_nil_iff]; simp; omega
  rw [e4, List.append_nil]
  have e5 : ∃ h, List.take (u.length + 1) (u ++ v ++ [(0 : Int)]) = u ++ [h] := by
    cases v with
    | nil => exact ⟨0, by simp [List.take_append, List.take_of_length_le (Nat.le_succ u.length)]⟩
    | cons h t => exact ⟨h, by simp [List.take_append, List.take_of_length_le (Nat.le_succ u.length)]⟩
  obtain ⟨h, e5⟩ := e5
  rw [e5]
  simp
theorem rl3 (l out : List Nat) {x : Nat} (hx : x < 1024) (hol : out.length < 1000000) (ho : ∀ s ∈ out, s < 1024) (len : Int) (i : Nat) (hi : i < 4611686018427387904) (r : List Int)
    (hin : out.any (fun y => x == y) = true → z1u (l.map Int.ofNat) (out.map Int.ofNat) (l.map Int.ofNat) len ((i + 1 : Nat) : Int) = some r)
    (hnew : out.any (fun y => x == y) = false → z1u (l.map Int.ofNat) ((out.take (q2t x 0 0 out) ++ [x] ++ out.drop (q2t x 0 0 out)).map Int.ofNat) (l.map Int.ofNat) len ((i + 1 : Nat) : Int) = some r)
    (hk : q2t x 0 0 out ≤ out.length) : ∀ (suf pre : List Nat) (k : Nat), out = pre ++ suf → k ≤ pre.length → q2t x pre.length k suf = q2t x 0 0 out →
    z2c (l.map Int.ofNat) (out.map Int.ofNat) (x : Int) (k : Int) (pre.any fun y => x == y) (l.map Int.ofNat) len (i : Int) ((out.length : Nat) : Int) ((pre.length : Nat) : Int) = some r
  | [], pre, k, e, hkp, hl => by
    rw [List.append_nil] at e
    subst e
    simp only [q2t] at hl
    apply qxk
    rw [q02 (Int.le_refl _)]
    simp only [cond_false]
    cases hb : out.any fun y => x == y with
    | true =>
      simp only [Bool.not_true, cond_false]
      rw [q04 hi]
      exact hin hb
    | false =>
      simp only [Bool.not_false, cond_true]
      have hnew' := hnew hb
      rw [← hl] at hnew'
      have hsz : (out.map Int.ofNat ++ [(0 : Int)]).length = out.length + 1 := by simp
      rw [q09 (by simp [q0g]; omega), q04 (show k < 4611686018427387904 by omega)]
      rw [q74 (by omega) (by rw [hsz]; omega), q74 (by omega) (by rw [hsz]; omega)]
      simp only [Int.toNat_natCast]
      rw [q0m (Nat.le_refl _), q0m (Nat.le_refl _), q04 hi]
      have hsp : out.map Int.ofNat = (out.take k).map Int.ofNat ++ (out.drop k).map Int.ofNat := by rw [← List.map_append, List.take_append_drop]
      have hku : ((out.take k).map Int.ofNat).length = k := by simp; omega
      have key := y5x ((out.take k).map Int.ofNat) ((out.drop k).map Int.ofNat) (x : Int)
      rw [← hsp, hku] at key
      have hlen : (List.take (k + 1) (out.map Int.ofNat ++ [0]) ++ List.take ((out.map Int.ofNat ++ [(0 : Int)]).length - (k + 1)) (List.drop k (List.take (out.map Int.ofNat ++ [(0 : Int)]).length (out.map Int.ofNat ++ [0]))) ++
          List.drop (k + 1 + min ((out.map Int.ofNat ++ [(0 : Int)]).length - (k + 1)) (List.drop k (List.take (out.map Int.ofNat ++ [(0 : Int)]).length (out.map Int.ofNat ++ [0]))).length) (out.map Int.ofNat ++ [0])).length = out.length + 1 := by
        have := congrArg List.length key
        rw [List.length_set] at this
        rw [this]; simp; omega
      rw [key]
      have hg := List.getElem?_eq_getElem (show k < _ from by rw [hlen]; omega)
      rw [q10 (by omega) (by rw [Int.toNat_natCast]; exact hg), q39 hg]
      rw [← hnew']
      congr 1
      simp
  | y :: suf, pre, k, e, hkp, hl => by
    have hlt : pre.length < out.length := by rw [e]; simp
    have hy : y < 1024 := ho y (by rw [e]; simp)
    have hg : (out.map Int.ofNat)[pre.length]? = some (y : Int) := by rw [e]; simp
    have ih := rl3 l out hx hol ho len i hi r hin hnew hk suf (pre ++ [y]) (if ltB (ncmp y x) 0 then pre.length + 1 else k) (by rw [e]; simp) (by split <;> simp <;> omega) (by rw [← hl]; simp only [q2t, List.length_append, List.length_singleton])
    have hlen1 : (pre ++ [y]).length = pre.length + 1 := by simp
    rw [hlen1] at ih
    apply qxk
    rw [q05 (by omega)]
    simp only [cond_true]
    rw [q10 (by omega) (by rw [Int.toNat_natCast]; exact hg), Int.toNat_natCast, q39 hg, y0v hy hx]
    simp only [Option.bind_some]
    rw [q04 (by omega)]
    have hany : (pre ++ [y]).any (fun y => x == y) = ((pre.any fun y => x == y) || (x == y)) := by simp
    rw [hany] at ih
    have heq : eqB (x : Int) (y : Int) = (x == y) := by
      by_cases h : x = y
      · subst h; rw [q0t]; simp
      · rw [q0z (by omega)]; simp [h]
    cases hp : pre.any fun y => x == y with
    | true =>
      rw [hp] at ih
      simp only [cond_true, Bool.true_or] at ih ⊢
      cases hc : ltB (ncmp (y : Int) (x : Int)) 0 with
      | true => rw [hc] at ih; simpa using ih
      | false => rw [hc] at ih; simpa using ih
    | false =>
      rw [hp] at ih
      simp only [cond_false, Bool.false_or] at ih ⊢
      rw [heq]
      cases hc : ltB (ncmp (y : Int) (x : Int)) 0 with
      | true => rw [hc] at ih; simpa using ih
      | false => rw [hc] at ih; simpa using ih
def minB (l : List Nat) (x : Nat) : Bool := l.all fun y => !(y != x && subB y x)
theorem qwx {l : List Nat} {x : Nat} : minB l x = true ↔ ∀ t ∈ l, Sub t x → t = x := by
  unfold minB
  rw [List.all_eq_true]
  constructor
  · intro h t ht hs
    have := h t ht
    rw [q1t.2 hs] at this
    simpa using this
  · intro h t ht
    by_cases hs : subB t x = true
    · rw [h t ht (q1t.1 hs)]; simp
    · have : subB t x = false := by simpa using hs
      rw [this]; simp
theorem qhy {y x : Nat} : (y &&& x == y) = subB y x := by
  rw [Bool.eq_iff_iff, q1t, qad, beq_iff_eq]
theorem rl2 (l out : List Nat) (hl : ∀ s ∈ l, s < 1024) (hll : l.length < 1000000) {x : Nat} (hx : x < 1024) (i : Nat) (r : List Int) (hi : i < 4611686018427387904)
    (hno : minB l x = false → z1u (l.map Int.ofNat) (out.map Int.ofNat) (l.map Int.ofNat) ((l.length : Nat) : Int) ((i + 1 : Nat) : Int) = some r)
    (hyes : minB l x = true → z2c (l.map Int.ofNat) (out.map Int.ofNat) (x : Int) 0 false (l.map Int.ofNat) ((l.length : Nat) : Int) (i : Int) ((out.length : Nat) : Int) 0 = some r) :
    ∀ (suf pre : List Nat), l = pre ++ suf →
    z2b (l.map Int.ofNat) (out.map Int.ofNat) (x : Int) (minB pre x) (l.map Int.ofNat) ((l.length : Nat) : Int) (i : Int) (l.map Int.ofNat) ((l.length : Nat) : Int) ((pre.length : Nat) : Int) = some r
  | [], pre, e => by
    rw [List.append_nil] at e
    subst e
    apply qxp
    rw [q02 (Int.le_refl _)]
    simp only [cond_false, List.length_map]
    cases hb : minB l x with
    | true => exact hyes hb
    | false =>
      simp only [Bool.not_false, cond_true]
      rw [q04 hi]
      exact hno hb
  | y :: suf, pre, e => by
    have hlt : pre.length < l.length := by rw [e]; simp
    have hy : y < 1024 := hl y (by rw [e]; simp)
    have hg : (l.map Int.ofNat)[pre.length]? = some (y : Int) := by rw [e]; simp
    have ih := rl2 l out hl hll hx i r hi hno hyes suf (pre ++ [y]) (by rw [e]; simp)
    have hlen1 : (pre ++ [y]).length = pre.length + 1 := by simp
    have hm : minB (pre ++ [y]) x = (minB pre x && !(y != x && subB y x)) := by simp [minB]
    rw [hlen1, hm] at ih
    apply qxp
    rw [q05 (by omega)]
    simp only [cond_true]
    rw [q10 (by omega) (by rw [Int.toNat_natCast]; exact hg), q04 (by omega)]
    cases hp : minB pre x with
    | false =>
      rw [hp] at ih
      simpa using ih
    | true =>
      rw [hp] at ih
      simp only [cond_true]
      rw [q6s, q48 hy]
      simp only [Option.bind_some, cond_true]
      by_cases hne : y = x
      · subst hne
        rw [q0h]
        simpa using ih
      · rw [q18 (by omega)]
        simp only [cond_true]
        have e1 : eqB (andI .i64 (y : Int) (x : Int)) (y : Int) = subB y x := by
          rw [q2q (by omega) (by omega), ← qhy]
          by_cases h : y &&& x = y
          · rw [h, q0t]; simp
          · rw [q0z (by omega)]; simp [h]
        rw [e1]
        have : (y != x) = true := by simp [hne]
        rw [this] at ih
        simpa using ih
theorem rl1 (l : List Nat) (hl : ∀ s ∈ l, s < 1024) (hll : l.length < 65536) : ∀ (suf pre out : List Nat), l = pre ++ suf → out.Pairwise nlt → (∀ s, s ∈ out ↔ s ∈ pre ∧ minB l s = true) →
    ∃ res, z1u (l.map Int.ofNat) (out.map Int.ofNat) (l.map Int.ofNat) ((l.length : Nat) : Int) ((pre.length : Nat) : Int) = some (res.map Int.ofNat) ∧ LeastOf l res
  | [], pre, out, e, ho, hm => by
    rw [List.append_nil] at e
    subst e
    refine ⟨out, ?_, ho, fun s => ?_⟩
    · apply qwy
      rw [q02 (Int.le_refl _)]
      rfl
    · rw [hm s, qwx]; rfl
  | x :: suf, pre, out, e, ho, hm => by
    have hlt : pre.length < l.length := by rw [e]; simp
    have hxl : x ∈ l := by rw [e]; simp
    have hx : x < 1024 := hl x hxl
    have hg : (l.map Int.ofNat)[pre.length]? = some (x : Int) := by rw [e]; simp
    have hos : ∀ s ∈ out, s < 1024 := fun s hs => hl s (by rw [e]; simp [((hm s).1 hs).1])
    have hol := qct ho hos
    have e' : l = (pre ++ [x]) ++ suf := by rw [e]; simp
    have hlen1 : (pre ++ [x]).length = pre.length + 1 := by simp
    have start : ∀ r, z2b (l.map Int.ofNat) (out.map Int.ofNat) (x : Int) true (l.map Int.ofNat) ((l.length : Nat) : Int) ((pre.length : Nat) : Int) (l.map Int.ofNat) ((l.length : Nat) : Int) 0 = some r →
        z1u (l.map Int.ofNat) (out.map Int.ofNat) (l.map Int.ofNat) ((l.length : Nat) : Int) ((pre.length : Nat) : Int) = some r := by
      intro r hr
      apply qwy
      rw [q05 (by omega)]
      simp only [cond_true]
      rw [q10 (by omega) (by rw [Int.toNat_natCast]; exact hg), q6s, q48 hx]
      simp only [Option.bind_some, List.length_map]
      exact hr
    cases hb : minB l x with
    | false =>
      obtain ⟨res, h1, h2⟩ := rl1 l hl hll suf (pre ++ [x]) out e' ho (fun s => by
        rw [hm s]
        constructor
        · rintro ⟨h1, h2⟩; exact ⟨by simp [h1], h2⟩
        · rintro ⟨h1, h2⟩
          rcases List.mem_append.1 h1 with h | h
          · exact ⟨h, h2⟩
          · rw [List.mem_singleton] at h; subst h; rw [hb] at h2; cases h2)
      rw [hlen1] at h1
      refine ⟨res, start _ ?_, h2⟩
      exact rl2 l out hl (by omega) hx pre.length _ (by omega) (fun _ => h1) (fun h => by rw [hb] at h; cases h) l [] rfl
    | true =>
      obtain ⟨k1, k2, k3⟩ := qap hx out [] 0 (by simpa using ho) (by simpa using hos) (by simp) (by simp) (by simp)
      simp only [List.nil_append, List.length_nil] at k1 k2 k3
      by_cases hin : x ∈ out
      · obtain ⟨res, h1, h2⟩ := rl1 l hl hll suf (pre ++ [x]) out e' ho (fun s => by
          rw [hm s]
          constructor
          · rintro ⟨h1, h2⟩; exact ⟨by simp [h1], h2⟩
          · rintro ⟨h1, h2⟩
            rcases List.mem_append.1 h1 with h | h
            · exact ⟨h, h2⟩
            · rw [List.mem_singleton] at h; subst h; exact (hm s).1 hin)
        rw [hlen1] at h1
        have hany : out.any (fun y => x == y) = true := List.any_eq_true.2 ⟨x, hin, by simp⟩
        refine ⟨res, start _ ?_, h2⟩
        refine rl2 l out hl (by omega) hx pre.length _ (by omega) (fun h => by rw [hb] at h; cases h) (fun _ => ?_) l [] rfl
        exact rl3 l out hx (by omega) hos _ pre.length (by omega) _ (fun _ => h1) (fun h => by rw [hany] at h; cases h) k1 out [] 0 rfl (Nat.le_refl _) rfl
      · have hany : out.any (fun y => x == y) = false := by
          rw [List.any_eq_false]
          intro y hy h
          have : x = y := by simpa using h
          subst this; exact hin hy
        have hord : (out.take (q2t x 0 0 out) ++ [x] ++ out.drop (q2t x 0 0 out)).Pairwise nlt := by
          have hsp : out = out.take (q2t x 0 0 out) ++ out.drop (q2t x 0 0 out) := (List.take_append_drop _ _).symm
          have ho2 := ho
          rw [hsp] at ho2
          obtain ⟨o1, o2, o3⟩ := List.pairwise_append.1 ho2
          have hgt : ∀ s ∈ out.drop (q2t x 0 0 out), nlt x s := fun s hs => by
            rcases qfn x s with h | h | h
            · exact h
            · subst h; exact absurd (List.mem_of_mem_drop hs) hin
            · exact absurd h (k3 s hs)
          rw [List.append_assoc, List.pairwise_append]
          refine ⟨o1, ?_, fun a ha b hb' => ?_⟩
          · rw [List.singleton_append, List.pairwise_cons]; exact ⟨hgt, o2⟩
          · rcases List.mem_append.1 hb' with h | h
            · rw [List.mem_singleton] at h; subst h; exact k2 a ha
            · exact o3 a ha b h
        have hmem : ∀ s, s ∈ out.take (q2t x 0 0 out) ++ [x] ++ out.drop (q2t x 0 0 out) ↔ s ∈ pre ++ [x] ∧ minB l s = true := by
          intro s
          have hsp : s ∈ out ↔ s ∈ out.take (q2t x 0 0 out) ∨ s ∈ out.drop (q2t x 0 0 out) := by
            rw [← List.mem_append, List.take_append_drop]
          simp only [List.mem_append, List.mem_singleton]
          constructor
          · rintro ((h | h) | h)
            · have := (hm s).1 (hsp.2 (.inl h)); exact ⟨.inl this.1, this.2⟩
            · subst h; exact ⟨.inr rfl, hb⟩
            · have := (hm s).1 (hsp.2 (.inr h)); exact ⟨.inl this.1, this.2⟩
          · rintro ⟨h | h, h2⟩
            · rcases hsp.1 ((hm s).2 ⟨h, h2⟩) with h | h
              · exact .inl (.inl h)
              · exact .inr h
            · exact .inl (.inr h)
        obtain ⟨res, h1, h2⟩ := rl1 l hl hll suf (pre ++ [x]) (out.take (q2t x 0 0 out) ++ [x] ++ out.drop (q2t x 0 0 out)) e' hord hmem
        rw [hlen1] at h1
        refine ⟨res, start _ ?_, h2⟩
        refine rl2 l out hl (by omega) hx pre.length _ (by omega) (fun h => by rw [hb] at h; cases h) (fun _ => ?_) l [] rfl
        exact rl3 l out hx (by omega) hos _ pre.length (by omega) _ (fun h => by rw [hany] at h; cases h) (fun _ => h1) k1 out [] 0 rfl (Nat.le_refl _) rfl
theorem qc8 (l : List Nat) (hll : l.length < 65536) (hl : ∀ s ∈ l, s < 1024) : ∃ out, z3e (l.map Int.ofNat) = some (out.map Int.ofNat) ∧ LeastOf l out := by
  obtain ⟨res, h1, h2⟩ := rl1 l hl hll l [] [] rfl (by simp) (by simp)
  refine ⟨res, ?_, h2⟩
  apply y33
  rw [List.length_map]
  exact h1
end Go.Proofs.YtfjcndlhpfbcgaaGreat
