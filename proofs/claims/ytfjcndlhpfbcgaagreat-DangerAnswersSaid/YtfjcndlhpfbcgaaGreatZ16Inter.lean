/- Two disjoint quorums: both texts walk the sets in order; the first quorum that leaves room for another one. -/
import Derived.Test.YtfjcndlhpfbcgaaGreatZ16Pgreat
import Derived.Test.YtfjcndlhpfbcgaaGreatZ16Flat
import Derived.Test.YtfjcndlhpfbcgaaGreatZ16Delv
import Derived.Test.YtfjcndlhpfbcgaaGreatZ16Rquor
namespace Go.Proofs.YtfjcndlhpfbcgaaGreat
open Go Go.Ab Go.Sort
def q2j (u : Nat) : List Nat := (List.range (pc u + 1)).flatMap fun k => pick (fun s => subB s u && (pc s == k)) (u + 1)
theorem q15 {u s : Nat} : s ∈ q2j u ↔ Sub s u := by
  simp only [q2j, List.mem_flatMap, q0n, List.mem_range, beq_iff_eq, Bool.and_eq_true, q1t]
  constructor
  · rintro ⟨k, _, _, h, _⟩; exact h
  · intro h; exact ⟨pc s, by have := qcj h; omega, by have := q3p h; omega, h, rfl⟩
theorem qoq (p : Nat → Bool) (n : Nat) : (pick p n).Pairwise (· < ·) := List.Pairwise.sublist List.filter_sublist List.pairwise_lt_range
theorem q6m (u : Nat) : (q2j u).Pairwise nlt := by
  unfold q2j
  rw [List.pairwise_flatMap]
  constructor
  · intro k _
    refine (qoq _ _).imp_of_mem ?_
    intro a b ha hb hab
    have h1 := (q0n.1 ha).2
    have h2 := (q0n.1 hb).2
    simp only [Bool.and_eq_true, beq_iff_eq] at h1 h2
    exact .inr ⟨by omega, hab⟩
  · refine List.pairwise_lt_range.imp ?_
    intro a b hab x hx y hy
    have h1 := (q0n.1 hx).2
    have h2 := (q0n.1 hy).2
    simp only [Bool.and_eq_true, beq_iff_eq] at h1 h2
    exact .inl (by omega)
theorem qcs {u : Nat} (hu : u < 1024) : (q2j u).length ≤ 1024 := qct (q6m u) fun _s hs => (q15.1 hs).lt hu
theorem q1c {n u : Nat} : u < 2 ^ n ↔ Sub u (2 ^ n - 1) := by
  constructor
  · intro h i hi
    rw [Nat.testBit_two_pow_sub_one, decide_eq_true_eq]
    refine Nat.lt_of_not_le fun hle => ?_
    have := Nat.ge_two_pow_of_testBit hi
    have := Nat.pow_le_pow_right (n := 2) (by decide) hle
    omega
  · intro h
    have := q3p h
    have := Nat.two_pow_pos n
    omega
theorem q81 : ∀ j, j ≤ 10 → pc (2 ^ j - 1) = j := by
  have h : ∀ j, j < 11 → pc (2 ^ j - 1) = j := by decide
  exact fun j hj => h j (by omega)
theorem qg8 {u : Nat} (hu : u < 1024) : z4v (u : Int) = some ((q2j u).map Int.ofNat) := by
  have hlen := q3m (fun s => subB s u) (u + 1)
  obtain ⟨zs, h1, h2, h3⟩ := qpl (pick (fun s => subB s u) (u + 1)) (by omega) fun s hs => by have := (q0n.1 hs).1; omega
  have hnd : zs.Nodup := h2.nodup_iff.2 ((qoq _ _).imp fun h => by omega)
  have ho : zs.Pairwise nlt := by
    refine (h3.and hnd).imp ?_
    intro a b h
    rcases qfn a b with h' | h' | h'
    · exact h'
    · exact absurd h' h.2
    · exact absurd h' h.1
  have he : zs = q2j u := q9j ho (q6m u) fun s => by
    rw [h2.mem_iff, q0n, q1t, q15]
    exact ⟨fun h => h.2, fun h => ⟨by have := q3p h; omega, h⟩⟩
  apply y32
  have := qha hu h1 (u + 1) 0 (by omega)
  rw [he] at this
  simpa [pick] using this
theorem qtr {u : Nat} (hu : u < 1024) {k : Nat} (hk : k ≤ 10) {acc : List Nat} (ha : acc.length ≤ 20000) {r : List Int}
    (hr : z33 (u : Int) ((acc ++ pick (fun s => subB s u && (pc s == k)) (u + 1)).map Int.ofNat) ((k + 1 : Nat) : Int) = some r) : ∀ (j i : Nat), i + j = u + 1 →
    z2m (u : Int) ((acc ++ pick (fun s => subB s u && (pc s == k)) i).map Int.ofNat) (k : Int) (i : Int) = some r
  | 0, i, h => by
    have : i = u + 1 := by omega
    subst this
    apply qxv
    rw [q0a (by omega)]
    simp only [cond_false]
    rw [q04 (by omega)]
    exact hr
  | j + 1, i, h => by
    have ih := qtr hu hk ha hr j (i + 1) (by omega)
    have hlen := q3m (fun s => subB s u && (pc s == k)) i
    have hp := pc_le i
    rw [q6f] at ih
    apply qxv
    rw [q0f (by omega), q2q (by omega) (by omega), q04 (by omega)]
    simp only [cond_true]
    by_cases h1 : i &&& u = i
    · have hs : subB i u = true := q1t.2 (qad.2 h1)
      rw [h1, q0t]
      simp only [cond_true]
      rw [q73 (s := i) (by omega)]
      simp only [Option.bind_some]
      by_cases h2 : pc i = k
      · rw [h2, q0t]
        simp only [cond_true]
        rw [if_pos (by simp [hs, h2]), ← List.append_assoc, List.map_append (l₂ := [i])] at ih
        rw [q09 (by simp [q0g]; omega)]
        exact ih
      · rw [q0z (by omega)]
        simp only [cond_false]
        rw [if_neg (by simp [h2])] at ih
        exact ih
    · have hs : subB i u = false := by
        cases hb : subB i u with
        | false => rfl
        | true => exact absurd (qad.1 (q1t.1 hb)) h1
      rw [q0z (by omega)]
      simp only [cond_false]
      rw [if_neg (by simp [hs])] at ih
      exact ih
def ordTo (u k : Nat) : List Nat := (List.range k).flatMap fun k => pick (fun s => subB s u && (pc s == k)) (u + 1)
theorem qi0 (u k : Nat) : ordTo u (k + 1) = ordTo u k ++ pick (fun s => subB s u && (pc s == k)) (u + 1) := by simp [ordTo, List.range_succ]
theorem qk7 (u : Nat) : ∀ k, (ordTo u k).length ≤ k * (u + 1)
  | 0 => by simp [ordTo]
  | k + 1 => by
    have := qk7 u k
    have := q3m (fun s => subB s u && (pc s == k)) (u + 1)
    rw [qi0, List.length_append, Nat.succ_mul]
    omega
theorem qrz {u : Nat} (hu : u < 1024) : ∀ (j k : Nat), k + j = pc u + 1 → z33 (u : Int) ((ordTo u k).map Int.ofNat) (k : Int) = some ((q2j u).map Int.ofNat)
  | 0, k, h => by
    apply qyh
    rw [q73 hu]
    simp only [Option.bind_some]
    rw [q0a (by omega)]
    rw [h.symm.trans (Nat.add_zero k) |>.symm]
    rfl
  | j + 1, k, h => by
    have hp := pc_le u
    have ih := qrz hu j (k + 1) (by omega)
    rw [qi0] at ih
    have hl := qk7 u k
    have hk : k * (u + 1) ≤ 10 * 1024 := Nat.mul_le_mul (by omega) (by omega)
    apply qyh
    rw [q73 hu]
    simp only [Option.bind_some]
    rw [q0f (by omega), q6s, q48 hu]
    simp only [cond_true, Option.bind_some]
    have := qtr hu (k := k) (by omega) (acc := ordTo u k) (by omega) ih (u + 1) 0 (by omega)
    simpa [pick] using this
theorem qmq {u : Nat} (hu : u < 1024) : z6c (u : Int) = some ((q2j u).map Int.ofNat) := by
  apply y5p
  exact qrz hu (pc u + 1) 0 (by omega)
theorem qot {a : Nat} (h : 1 ≤ a) (ha : a < 4611686018427387904) : subI .i64 (a : Int) 1 = ((a - 1 : Nat) : Int) := q7q (b := 1) h ha
theorem qcn {n s : Nat} (h : s < 2 ^ n) : ndiff (2 ^ n - 1) s = 2 ^ n - 1 - s := by
  apply Nat.eq_of_testBit_eq
  intro i
  rw [show 2 ^ n - 1 - s = 2 ^ n - (s + 1) from by omega, Nat.testBit_two_pow_sub_succ h, q0p, Nat.testBit_two_pow_sub_one]
theorem q8k {s n : Nat} (hn : n ≤ 10) : z2n (s : Int) (n : Int) = some (decide (s < 2 ^ n)) := by
  apply qua
  rw [q0f (by omega), q0m (by omega), shl1 (by omega) (by omega), Int.toNat_natCast]
  simp only [cond_true]
  by_cases h : s < 2 ^ n
  · rw [q05 (by omega), decide_eq_true h]
  · rw [q02 (by omega), decide_eq_false h]
theorem qox {n : Nat} (hn : n ≤ 10) {s : Nat} (hs : s < 2 ^ n) : ∀ (k t : Nat), t + k = 2 ^ n → s < t → (∀ u, s < u → u < t → pc u ≠ pc s) →
    ∃ (t' : Nat) (b : Bool), z2x (n : Int) ((pc s : Nat) : Int) (t : Int) = some ((t' : Int), b) ∧
      (b = true → t' < 2 ^ n ∧ nlt s t' ∧ ∀ u, u < 2 ^ n → nlt s u → u = t' ∨ nlt t' u) ∧ (b = false → ∀ u, u < 2 ^ n → ¬ nlt s u)
  | 0, t, h, ht, hno => by
    have hp := pow10 hn
    have hle : ∀ {j u : Nat}, j ≤ 10 → u < 2 ^ j → pc u ≤ j := fun hj hu => by
      have := qcj (q1c.1 hu)
      rwa [q81 _ hj] at this
    have hps := hle hn hs
    by_cases he : pc s = n
    · refine ⟨0, false, ?_, by simp, fun _ u hu hlt => ?_⟩
      · apply qoh
        rw [q8k hn, decide_eq_false (by omega), he, q0t]
        rfl
      · have := hle hn hu
        rcases hlt with h1 | ⟨h1, h2⟩
        · omega
        · exact hno u h2 (by omega) h1.symm
    · refine ⟨2 ^ (pc s + 1) - 1, true, ?_, fun _ => ⟨?_, ?_, fun u hu hlt => ?_⟩, by simp⟩
      · have hp1 := Nat.two_pow_pos (pc s + 1)
        have hp2 : 2 ^ (pc s + 1) ≤ 1024 := pow10 (by omega)
        apply qoh
        rw [q8k hn, decide_eq_false (by omega), q0z (by omega)]
        simp only [Option.bind_some, cond_false]
        rw [q04 (by omega), q0m (by omega), shl1 (by omega) (by omega), Int.toNat_natCast, qot (by omega) (by omega)]
      · have : 2 ^ (pc s + 1) ≤ 2 ^ n := Nat.pow_le_pow_right (by decide) (by omega)
        have := Nat.two_pow_pos (pc s + 1)
        omega
      · exact .inl (by rw [q81 _ (by omega)]; omega)
      · have h1 : pc s < pc u := by
          rcases hlt with h1 | ⟨h1, h2⟩
          · exact h1
          · exact absurd h1.symm (hno u h2 (by omega))
        by_cases h2 : pc u = pc s + 1
        · have hge : 2 ^ (pc s + 1) - 1 ≤ u := by
            refine Nat.le_of_not_lt fun hlt' => ?_
            have hsub : Sub u (2 ^ (pc s + 1) - 1) := q1c.1 (by omega)
            have hp2 : 2 ^ (pc s + 1) ≤ 1024 := pow10 (by omega)
            have := q8z (by omega) (by omega) hsub (by rw [q81 _ (by omega)]; exact h2)
            omega
          rcases Nat.eq_or_lt_of_le hge with e | hlt'
          · exact .inl e.symm
          · exact .inr (.inr ⟨by rw [q81 _ (by omega)]; exact h2.symm, hlt'⟩)
        · exact .inr (.inl (by rw [q81 _ (by omega)]; omega))
  | k + 1, t, h, ht, hno => by
    have hp := pow10 hn
    by_cases he : pc t = pc s
    · refine ⟨t, true, ?_, fun _ => ⟨by omega, .inr ⟨he.symm, ht⟩, fun u hu hlt => ?_⟩, by simp⟩
      · apply qoh
        rw [q8k hn, decide_eq_true (by omega), qbt (by omega)]
        simp only [Option.bind_some, cond_true]
        rw [he, q0t]
        rfl
      · rcases hlt with h1 | ⟨h1, h2⟩
        · exact .inr (.inl (by omega))
        · rcases Nat.lt_trichotomy u t with h3 | h3 | h3
          · exact absurd h1.symm (hno u h2 h3)
          · exact .inl h3
          · exact .inr (.inr ⟨by omega, h3⟩)
    · obtain ⟨t', b, g1, g2, g3⟩ := qox hn hs k (t + 1) (by omega) (by omega) fun u h1 h2 => by
        by_cases e : u = t
        · rw [e]; exact he
        · exact hno u h1 (by omega)
      refine ⟨t', b, ?_, g2, g3⟩
      apply qoh
      rw [q8k hn, decide_eq_true (by omega), qbt (by omega)]
      simp only [Option.bind_some, cond_true]
      rw [q0z (by omega), q04 (by omega)]
      exact g1
theorem qpr {n : Nat} (hn : n ≤ 10) {s : Nat} (hs : s < 2 ^ n) : ∃ (t' : Nat) (b : Bool), z61 (s : Int) (n : Int) = some ((t' : Int), b) ∧
      (b = true → t' < 2 ^ n ∧ nlt s t' ∧ ∀ u, u < 2 ^ n → nlt s u → u = t' ∨ nlt t' u) ∧ (b = false → ∀ u, u < 2 ^ n → ¬ nlt s u) := by
  have hp := pow10 hn
  obtain ⟨t', b, g1, g2, g3⟩ := qox hn hs (2 ^ n - (s + 1)) (s + 1) (by omega) (by omega) fun u h1 h2 => by omega
  refine ⟨t', b, ?_, g2, g3⟩
  apply y52
  rw [q02 (by omega), q02 (by omega), q8k hn, decide_eq_true hs]
  simp only [cond_false, Option.bind_some, Bool.not_true]
  rw [qbt (by omega)]
  simp only [Option.bind_some]
  rw [q04 (by omega)]
  exact g1
def aptB (c : Config) (s : Nat) : Bool := quoB c s && (q1a c (ndiff (2 ^ c.Members.length - 1) s) != 0)
def aptR (c : Config) : Option Nat → Nat × Nat
  | some s => (s, q1a c (ndiff (2 ^ c.Members.length - 1) s))
  | none => (0, 0)
def apart (c : Config) : Nat × Nat := aptR c ((q2j (2 ^ c.Members.length - 1)).find? (aptB c))
def pairI (p : Nat × Nat) : Int × Int := (p.1, p.2)
theorem q32 {n : Nat} (hn : n ≤ 10) : subI .i64 (shlI .i64 1 ((n : Nat) : Int)) 1 = ((2 ^ n - 1 : Nat) : Int) := by
  have hp := pow10 hn
  have hp1 := Nat.two_pow_pos n
  rw [shl1 (by omega) (by omega), Int.toNat_natCast, qot (by omega) (by omega)]
theorem y1n {c : Config} (hc : q13 c) (hn : c.Members.length ≤ 10) : ∀ (suf pre : List Nat) (s : Nat), q2j (2 ^ c.Members.length - 1) = pre ++ s :: suf →
    z1k ((c.Members.length : Nat) : Int) (s : Int) true c.Members = some (pairI (aptR c ((s :: suf).find? (aptB c)))) := by
  have hp := pow10 hn
  have hp1 := Nat.two_pow_pos c.Members.length
  intro suf
  induction suf with
  | nil =>
    intro pre s e
    have hord := q6m (2 ^ c.Members.length - 1)
    have hs : s < 2 ^ c.Members.length := q1c.2 (q15.1 (by rw [e]; simp))
    obtain ⟨t', b, g1, g2, g3⟩ := qpr hn hs
    have hb : b = false := by
      cases b with
      | false => rfl
      | true =>
        obtain ⟨h1, h2, _⟩ := g2 rfl
        have hm : t' ∈ q2j (2 ^ c.Members.length - 1) := q15.2 (q1c.1 h1)
        rw [e] at hm hord
        rw [List.pairwise_append] at hord
        rcases List.mem_append.1 hm with h | h
        · exact absurd (q8o h2 (hord.2.2 t' h s (by simp))) (q3a _)
        · simp at h; subst h; exact absurd h2 (q3a _)
    subst hb
    have hnext : z1k ((c.Members.length : Nat) : Int) (t' : Int) false c.Members = some (0, 0) := by
      apply qrs; rfl
    have hlt : ndiff (2 ^ c.Members.length - 1) s < 1024 := q2k (by omega)
    apply qrs
    rw [show Config.mk c.Members = c from rfl, qhr (by omega) hc]
    simp only [cond_true, Option.bind_some]
    cases hq : quoB c s with
    | false =>
      simp only [Bool.not_false, cond_true]
      rw [g1]
      simp only [Option.bind_some]
      rw [hnext]
      simp [aptB, hq, aptR, pairI]
    | true =>
      have hm : z2i c = some ((2 ^ c.Members.length - 1 : Nat) : Int) := by
        apply qxt
        rw [q0m (by omega), q32 hn]
      simp only [Bool.not_true, cond_false]
      rw [hm]
      simp only [Option.bind_some]
      rw [q2y (by omega) (by omega), q8j hlt hc]
      simp only [Option.bind_some, qgl]
      cases hg : (q1a c (ndiff (2 ^ c.Members.length - 1) s) != 0) with
      | false =>
        simp only [cond_false]
        rw [g1]
        simp only [Option.bind_some]
        rw [hnext]
        have : aptB c s = false := by simp only [aptB, hq, hg]; rfl
        simp [this, aptR, pairI]
      | true =>
        simp only [cond_true]
        have : aptB c s = true := by simp only [aptB, hq, hg]; rfl
        simp [this, aptR, pairI]
  | cons v suf ih =>
    intro pre s e
    have hord := q6m (2 ^ c.Members.length - 1)
    have hs : s < 2 ^ c.Members.length := q1c.2 (q15.1 (by rw [e]; simp))
    have hv : v < 2 ^ c.Members.length := q1c.2 (q15.1 (by rw [e]; simp))
    obtain ⟨t', b, g1, g2, g3⟩ := qpr hn hs
    rw [e, List.pairwise_append, List.pairwise_cons, List.pairwise_cons] at hord
    have hsv := hord.2.1.1 v (by simp)
    have hb : b = true := by
      cases b with
      | true => rfl
      | false => exact absurd hsv (g3 rfl v hv)
    subst hb
    obtain ⟨h1, h2, h3⟩ := g2 rfl
    have ht : t' = v := by
      rcases h3 v hv hsv with h | h
      · exact h.symm
      · have hm : t' ∈ q2j (2 ^ c.Members.length - 1) := q15.2 (q1c.1 h1)
        rw [e] at hm
        rcases List.mem_append.1 hm with h' | h'
        · exact absurd (q8o h2 (hord.2.2 t' h' s (by simp))) (q3a _)
        · rcases List.mem_cons.1 h' with h'' | h''
          · subst h''; exact absurd h2 (q3a _)
          · rcases List.mem_cons.1 h'' with h4 | h4
            · exact h4
            · exact absurd (q8o h (hord.2.1.2.1 t' h4)) (q3a _)
    subst ht
    have hnext := ih (pre ++ [s]) t' (by rw [e]; simp)
    have hlt : ndiff (2 ^ c.Members.length - 1) s < 1024 := q2k (by omega)
    apply qrs
    rw [show Config.mk c.Members = c from rfl, qhr (by omega) hc]
    simp only [cond_true, Option.bind_some]
    cases hq : quoB c s with
    | false =>
      simp only [Bool.not_false, cond_true]
      rw [g1]
      simp only [Option.bind_some]
      rw [hnext, List.find?_cons (a := s)]
      simp [aptB, hq]
    | true =>
      have hm : z2i c = some ((2 ^ c.Members.length - 1 : Nat) : Int) := by
        apply qxt
        rw [q0m (by omega), q32 hn]
      simp only [Bool.not_true, cond_false]
      rw [hm]
      simp only [Option.bind_some]
      rw [q2y (by omega) (by omega), q8j hlt hc]
      simp only [Option.bind_some, qgl]
      cases hg : (q1a c (ndiff (2 ^ c.Members.length - 1) s) != 0) with
      | false =>
        simp only [cond_false]
        rw [g1]
        simp only [Option.bind_some]
        have : aptB c s = false := by simp only [aptB, hq, hg]; rfl
        rw [hnext, List.find?_cons (a := s), this]
      | true =>
        simp only [cond_true]
        have : aptB c s = true := by simp only [aptB, hq, hg]; rfl
        rw [List.find?_cons (a := s), this]; rfl
theorem qmy (u : Nat) : ∃ suf, q2j u = 0 :: suf := by
  have h0 : (0 : Nat) ∈ q2j u := q15.2 fun i hi => by simp at hi
  cases h : q2j u with
  | nil => rw [h] at h0; cases h0
  | cons a suf =>
    have ho := q6m u
    rw [h] at h0 ho
    rcases List.mem_cons.1 h0 with e | hm
    · exact ⟨suf, by rw [e]⟩
    · have := (List.pairwise_cons.1 ho).1 0 hm
      have h1 : pc 0 = 0 := by decide
      rcases this with h2 | ⟨_, h2⟩ <;> omega
theorem qoc {c : Config} (hc : q13 c) (hn : c.Members.length ≤ 10) : z45 c = some (pairI (apart c)) := by
  obtain ⟨suf, h⟩ := qmy (2 ^ c.Members.length - 1)
  apply y5b
  have := y1n hc hn suf [] 0 h
  rw [← h] at this
  exact this
theorem qk4 {c : Config} (hc : q13 c) (hn : c.Members.length ≤ 10) {l : List Nat} (hl : l.length ≤ 1024) (hm : ∀ s ∈ l, s < 2 ^ c.Members.length) : ∀ (suf : List Nat) (i : Nat), l.drop i = suf →
    z3t (l.map Int.ofNat) ((l.length : Nat) : Int) (i : Int) c.Members = some (pairI (aptR c (suf.find? (aptB c))))
  | [], i, h => by
    apply qyj
    rw [q0l h]; rfl
  | s :: suf, i, h => by
    have hp := pow10 hn
    have hp1 := Nat.two_pow_pos c.Members.length
    have hlt := q0k h
    have hs := hm s (List.mem_of_mem_drop (by rw [h]; exact List.mem_cons_self))
    have ih := qk4 hc hn hl hm suf (i + 1) (q08 h)
    have hd : ndiff (2 ^ c.Members.length - 1) s = 2 ^ c.Members.length - 1 - s := by
      exact qcn hs
    have hlt' : ndiff (2 ^ c.Members.length - 1) s < 1024 := q2k (by omega)
    apply qyj
    rw [q0e h]
    simp only [cond_true, q0d (q17 h)]
    rw [show Config.mk c.Members = c from rfl, q6l (by omega) hc, q04 (by omega), ih]
    simp only [Option.bind_some]
    rw [List.find?_cons]
    cases hq : quoB c s with
    | false => simp [aptB, hq]
    | true =>
      have hmm : z49 c = some ((2 ^ c.Members.length - 1 : Nat) : Int) := by
        apply qz3
        rw [q0m (by omega), q32 hn]
      simp only [Bool.not_true, cond_false]
      rw [hmm]
      simp only [Option.bind_some]
      rw [q7q (by omega) (by omega), ← hd, qb0 hlt' hc]
      simp only [Option.bind_some, qgl]
      cases hg : (q1a c (ndiff (2 ^ c.Members.length - 1) s) != 0) with
      | false =>
        have : aptB c s = false := by simp only [aptB, hq, hg]; rfl
        rw [this]; rfl
      | true =>
        have : aptB c s = true := by simp only [aptB, hq, hg]; rfl
        rw [this]; rfl
theorem qm9 {c : Config} (hc : q13 c) (hn : c.Members.length ≤ 10) : z6g c = some (pairI (apart c)) := by
  have hp := pow10 hn
  have hp1 := Nat.two_pow_pos c.Members.length
  apply y2q
  have hmm : z49 c = some ((2 ^ c.Members.length - 1 : Nat) : Int) := by
    apply qz3
    rw [q0m (by omega), q32 hn]
  rw [hmm]
  simp only [Option.bind_some]
  rw [qmq (by omega)]
  simp only [Option.bind_some, List.length_map]
  exact qk4 hc hn (qcs (by omega)) (fun s hs => q1c.2 (q15.1 hs)) _ 0 rfl
theorem apart_spec {c : Config} (hn : c.Members.length ≤ 10) : ((apart c).1 = 0 ∧ (apart c).2 = 0 ∧ ∀ a b, q44 c a → q44 c b → a &&& b = 0 → False) ∨
    (q44 c (apart c).1 ∧ q44 c (apart c).2 ∧ (apart c).1 &&& (apart c).2 = 0 ∧ (apart c).1 ≠ 0) := by
  have hp := pow10 hn
  have hp1 := Nat.two_pow_pos c.Members.length
  unfold apart
  cases h : (q2j (2 ^ c.Members.length - 1)).find? (aptB c) with
  | none =>
    refine .inl ⟨rfl, rfl, fun a b ha hb hab => ?_⟩
    have hla : a < 2 ^ c.Members.length := Nat.lt_of_le_of_lt (q3p ha.2.1) (q93 hn)
    have hlb : b < 2 ^ c.Members.length := Nat.lt_of_le_of_lt (q3p hb.2.1) (q93 hn)
    have hno := List.find?_eq_none.1 h a (q15.2 (q1c.1 hla))
    apply hno
    have hqa := (q3y (by omega)).2 ha
    have hlt : ndiff (2 ^ c.Members.length - 1) a < 1024 := q2k (by omega)
    have hsub : Sub b (ndiff (2 ^ c.Members.length - 1) a) := fun i hi => by
      rw [q0p, q1c.1 hlb i hi]
      cases hai : a.testBit i with
      | false => rfl
      | true =>
        have : (a &&& b).testBit i = true := by rw [Nat.testBit_and, hai, hi]; rfl
        rw [hab] at this; simp at this
    have hg := q64 c hlt hb hsub
    have : q1a c (ndiff (2 ^ c.Members.length - 1) a) ≠ 0 := fun h0 => by
      rw [h0] at hg
      have := q3p hg
      exact hb.1 (by omega)
    simp [aptB, hqa, this]
  | some s =>
    have h1 := List.find?_some h
    have h2 := q1c.2 (q15.1 (List.mem_of_find?_eq_some h))
    simp only [aptB, Bool.and_eq_true, bne_iff_ne] at h1
    have hlt : ndiff (2 ^ c.Members.length - 1) s < 1024 := q2k (by omega)
    have hQ := (q3y (by omega)).1 h1.1
    refine .inr ⟨hQ, q3z c hlt h1.2, ?_, hQ.1⟩
    apply Nat.eq_of_testBit_eq
    intro i
    show (s &&& q1a c (ndiff (2 ^ c.Members.length - 1) s)).testBit i = _
    rw [Nat.testBit_and, Nat.zero_testBit]
    cases hsi : s.testBit i with
    | false => rfl
    | true =>
      cases hgi : (q1a c (ndiff (2 ^ c.Members.length - 1) s)).testBit i with
      | false => rfl
      | true =>
        have := (q3s c hlt).trans (Sub.and_left _ _) i hgi
        rw [q0p, hsi] at this
        simp at this
def twoB (c : Config) : Bool := (apart c).1 != 0
theorem qww {c : Config} (hn : c.Members.length ≤ 10) : twoB c = true ↔ ∃ a b, q44 c a ∧ q44 c b ∧ a &&& b = 0 := by
  simp only [twoB, bne_iff_ne]
  rcases apart_spec hn with ⟨h1, _, h2⟩ | ⟨h1, h2, h3, h4⟩
  · exact ⟨fun h => absurd h1 h, fun ⟨a, b, ha, hb, hab⟩ => absurd (h2 a b ha hb hab) id⟩
  · exact ⟨fun _ => ⟨_, _, h1, h2, h3⟩, fun _ => h4⟩
theorem qs5 {c : Config} (hc : q13 c) (he : cerr c = 0) : z4r c = some (!twoB c, 0) := by
  apply y4d
  rw [q4g hc, he]
  simp only [Option.bind_some, q0h, cond_false]
  rw [qoc hc (q1y.1 he).1]
  simp only [Option.bind_some, pairI, q69, twoB]
  congr 2
  cases h : ((apart c).1 == 0) <;> simp_all
theorem qsz {c : Config} (hc : q13 c) (he : cerr c = 0) : z6q c = some (!twoB c, 0) := by
  apply y66
  rw [q52 hc, he]
  simp only [Option.bind_some, q0h, cond_false]
  rw [qm9 hc (q1y.1 he).1]
  simp only [Option.bind_some, pairI, q69, twoB]
  congr 2
  cases h : ((apart c).1 == 0) <;> simp_all
def disjR (c : Config) : Int × Int × Int := if twoB c then (((apart c).1 : Int), ((apart c).2 : Int), 0) else (0, 0, 11)
theorem ql4 {c : Config} (hc : q13 c) (he : cerr c = 0) : z3n c = some (disjR c) := by
  apply y29
  rw [q4g hc, he]
  simp only [Option.bind_some, q0h, cond_false]
  rw [qoc hc (q1y.1 he).1]
  simp only [Option.bind_some, pairI, q69, twoB, disjR]
  by_cases h : (apart c).1 = 0
  · simp [h]
  · rw [show ((apart c).1 == 0) = false by simp [h]]
    simp [h]
theorem qm8 {c : Config} (hc : q13 c) (he : cerr c = 0) : z65 c = some (disjR c) := by
  apply y5q
  rw [q52 hc, he]
  simp only [Option.bind_some, q0h, cond_false]
  rw [qm9 hc (q1y.1 he).1]
  simp only [Option.bind_some, pairI, q69, twoB, disjR]
  by_cases h : (apart c).1 = 0
  · simp [h]
  · rw [show ((apart c).1 == 0) = false by simp [h]]
    simp [h]
end Go.Proofs.YtfjcndlhpfbcgaaGreat
