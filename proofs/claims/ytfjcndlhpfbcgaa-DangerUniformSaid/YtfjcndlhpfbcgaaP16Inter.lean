/- Two disjoint quorums: both texts walk the sets in order; the first quorum that leaves room for another one. -/
import Derived.Test.YtfjcndlhpfbcgaaP16Pgreat
import Derived.Test.YtfjcndlhpfbcgaaP16Flat
import Derived.Test.YtfjcndlhpfbcgaaP16Delv
import Derived.Test.YtfjcndlhpfbcgaaP16Rquor
namespace Go.Proofs.Ytfjcndlhpfbcgaa
open Go Go.Ab Go.Sort
def ordSub (u : Nat) : List Nat := (List.range (pc u + 1)).flatMap fun k => pick (fun s => subB s u && (pc s == k)) (u + 1)
theorem mem_ordSub {u s : Nat} : s ∈ ordSub u ↔ Sub s u := by
  simp only [ordSub, List.mem_flatMap, mem_pick, List.mem_range, beq_iff_eq, Bool.and_eq_true, subB_iff]
  constructor
  · rintro ⟨k, _, _, h, _⟩; exact h
  · intro h; exact ⟨pc s, by have := pc_mono h; omega, by have := sub_le h; omega, h, rfl⟩
theorem pick_asc (p : Nat → Bool) (n : Nat) : (pick p n).Pairwise (· < ·) := List.Pairwise.sublist List.filter_sublist List.pairwise_lt_range
theorem ordSub_ord (u : Nat) : (ordSub u).Pairwise nlt := by
  unfold ordSub
  rw [List.pairwise_flatMap]
  constructor
  · intro k _
    refine (pick_asc _ _).imp_of_mem ?_
    intro a b ha hb hab
    have h1 := (mem_pick.1 ha).2
    have h2 := (mem_pick.1 hb).2
    simp only [Bool.and_eq_true, beq_iff_eq] at h1 h2
    exact .inr ⟨by omega, hab⟩
  · refine List.pairwise_lt_range.imp ?_
    intro a b hab x hx y hy
    have h1 := (mem_pick.1 hx).2
    have h2 := (mem_pick.1 hy).2
    simp only [Bool.and_eq_true, beq_iff_eq] at h1 h2
    exact .inl (by omega)
theorem ordSub_len {u : Nat} (hu : u < 1024) : (ordSub u).length ≤ 1024 := ord_len (ordSub_ord u) fun _s hs => (mem_ordSub.1 hs).lt hu
theorem nat_sub {n u : Nat} : u < 2 ^ n ↔ Sub u (2 ^ n - 1) := by
  constructor
  · intro h i hi
    rw [Nat.testBit_two_pow_sub_one, decide_eq_true_eq]
    refine Nat.lt_of_not_le fun hle => ?_
    have := Nat.ge_two_pow_of_testBit hi
    have := Nat.pow_le_pow_right (n := 2) (by decide) hle
    omega
  · intro h
    have := sub_le h
    have := Nat.two_pow_pos n
    omega
theorem pc_full : ∀ j, j ≤ 10 → pc (2 ^ j - 1) = j := by
  have h : ∀ j, j < 11 → pc (2 ^ j - 1) = j := by decide
  exact fun j hj => h j (by omega)
theorem psubsets_ok {u : Nat} (hu : u < 1024) : z2w (u : Int) = some ((ordSub u).map Int.ofNat) := by
  have hlen := pick_len (fun s => subB s u) (u + 1)
  obtain ⟨zs, h1, h2, h3⟩ := sortS_ok (pick (fun s => subB s u) (u + 1)) (by omega) fun s hs => by have := (mem_pick.1 hs).1; omega
  have hnd : zs.Nodup := h2.nodup_iff.2 ((pick_asc _ _).imp fun h => by omega)
  have ho : zs.Pairwise nlt := by
    refine (h3.and hnd).imp ?_
    intro a b h
    rcases nlt_total a b with h' | h' | h'
    · exact h'
    · exact absurd h' h.2
    · exact absurd h' h.1
  have he : zs = ordSub u := ord_unique ho (ordSub_ord u) fun s => by
    rw [h2.mem_iff, mem_pick, subB_iff, mem_ordSub]
    exact ⟨fun h => h.2, fun h => ⟨by have := sub_le h; omega, h⟩⟩
  apply z2w_le
  have := subsets_l1 hu h1 (u + 1) 0 (by omega)
  rw [he] at this
  simpa [pick] using this
theorem subI_one {a : Nat} (h : 1 ≤ a) (ha : a < 4611686018427387904) : subI .i64 (a : Int) 1 = ((a - 1 : Nat) : Int) := subI_nat (b := 1) h ha
theorem pbelow_ok {s n : Nat} (hn : n ≤ 10) : z1w (s : Int) (n : Int) = some (decide (s < 2 ^ n)) := by
  apply z1w_le
  rw [leB_true (by omega), chk_true (by omega), shl1 (by omega) (by omega), Int.toNat_natCast]
  simp only [cond_true]
  by_cases h : s < 2 ^ n
  · rw [ltB_true (by omega), decide_eq_true h]
  · rw [ltB_false (by omega), decide_eq_false h]
theorem pnext_l1 {n : Nat} (hn : n ≤ 10) {s : Nat} (hs : s < 2 ^ n) : ∀ (k t : Nat), t + k = 2 ^ n → s < t → (∀ u, s < u → u < t → pc u ≠ pc s) →
    ∃ (t' : Nat) (b : Bool), z22 (n : Int) ((pc s : Nat) : Int) (t : Int) = some ((t' : Int), b) ∧
      (b = true → t' < 2 ^ n ∧ nlt s t' ∧ ∀ u, u < 2 ^ n → nlt s u → u = t' ∨ nlt t' u) ∧ (b = false → ∀ u, u < 2 ^ n → ¬ nlt s u)
  | 0, t, h, ht, hno => by
    have hp := pow10 hn
    have hle : ∀ {j u : Nat}, j ≤ 10 → u < 2 ^ j → pc u ≤ j := fun hj hu => by
      have := pc_mono (nat_sub.1 hu)
      rwa [pc_full _ hj] at this
    have hps := hle hn hs
    by_cases he : pc s = n
    · refine ⟨0, false, ?_, by simp, fun _ u hu hlt => ?_⟩
      · apply z22_le
        rw [pbelow_ok hn, decide_eq_false (by omega), he, eqB_self]
        rfl
      · have := hle hn hu
        rcases hlt with h1 | ⟨h1, h2⟩
        · omega
        · exact hno u h2 (by omega) h1.symm
    · refine ⟨2 ^ (pc s + 1) - 1, true, ?_, fun _ => ⟨?_, ?_, fun u hu hlt => ?_⟩, by simp⟩
      · have hp1 := Nat.two_pow_pos (pc s + 1)
        have hp2 : 2 ^ (pc s + 1) ≤ 1024 := pow10 (by omega)
        apply z22_le
        rw [pbelow_ok hn, decide_eq_false (by omega), eqB_ne (by omega)]
        simp only [Option.bind_some, cond_false]
        rw [next_nat (by omega), chk_true (by omega), shl1 (by omega) (by omega), Int.toNat_natCast, subI_one (by omega) (by omega)]
      · have : 2 ^ (pc s + 1) ≤ 2 ^ n := Nat.pow_le_pow_right (by decide) (by omega)
        have := Nat.two_pow_pos (pc s + 1)
        omega
      · exact .inl (by rw [pc_full _ (by omega)]; omega)
      · have h1 : pc s < pc u := by
          rcases hlt with h1 | ⟨h1, h2⟩
          · exact h1
          · exact absurd h1.symm (hno u h2 (by omega))
        by_cases h2 : pc u = pc s + 1
        · have hge : 2 ^ (pc s + 1) - 1 ≤ u := by
            refine Nat.le_of_not_lt fun hlt' => ?_
            have hsub : Sub u (2 ^ (pc s + 1) - 1) := nat_sub.1 (by omega)
            have hp2 : 2 ^ (pc s + 1) ≤ 1024 := pow10 (by omega)
            have := pc_eq_of_sub (by omega) (by omega) hsub (by rw [pc_full _ (by omega)]; exact h2)
            omega
          rcases Nat.eq_or_lt_of_le hge with e | hlt'
          · exact .inl e.symm
          · exact .inr (.inr ⟨by rw [pc_full _ (by omega)]; exact h2.symm, hlt'⟩)
        · exact .inr (.inl (by rw [pc_full _ (by omega)]; omega))
  | k + 1, t, h, ht, hno => by
    have hp := pow10 hn
    by_cases he : pc t = pc s
    · refine ⟨t, true, ?_, fun _ => ⟨by omega, .inr ⟨he.symm, ht⟩, fun u hu hlt => ?_⟩, by simp⟩
      · apply z22_le
        rw [pbelow_ok hn, decide_eq_true (by omega), nsize_ok (by omega)]
        simp only [Option.bind_some, cond_true]
        rw [he, eqB_self]
        rfl
      · rcases hlt with h1 | ⟨h1, h2⟩
        · exact .inr (.inl (by omega))
        · rcases Nat.lt_trichotomy u t with h3 | h3 | h3
          · exact absurd h1.symm (hno u h2 h3)
          · exact .inl h3
          · exact .inr (.inr ⟨by omega, h3⟩)
    · obtain ⟨t', b, g1, g2, g3⟩ := pnext_l1 hn hs k (t + 1) (by omega) (by omega) fun u h1 h2 => by
        by_cases e : u = t
        · rw [e]; exact he
        · exact hno u h1 (by omega)
      refine ⟨t', b, ?_, g2, g3⟩
      apply z22_le
      rw [pbelow_ok hn, decide_eq_true (by omega), nsize_ok (by omega)]
      simp only [Option.bind_some, cond_true]
      rw [eqB_ne (by omega), next_nat (by omega)]
      exact g1
theorem pnext_ok {n : Nat} (hn : n ≤ 10) {s : Nat} (hs : s < 2 ^ n) : ∃ (t' : Nat) (b : Bool), z3m (s : Int) (n : Int) = some ((t' : Int), b) ∧
      (b = true → t' < 2 ^ n ∧ nlt s t' ∧ ∀ u, u < 2 ^ n → nlt s u → u = t' ∨ nlt t' u) ∧ (b = false → ∀ u, u < 2 ^ n → ¬ nlt s u) := by
  have hp := pow10 hn
  obtain ⟨t', b, g1, g2, g3⟩ := pnext_l1 hn hs (2 ^ n - (s + 1)) (s + 1) (by omega) (by omega) fun u h1 h2 => by omega
  refine ⟨t', b, ?_, g2, g3⟩
  apply z3m_le
  rw [ltB_false (by omega), ltB_false (by omega), pbelow_ok hn, decide_eq_true hs]
  simp only [cond_false, Option.bind_some, Bool.not_true]
  rw [nsize_ok (by omega)]
  simp only [Option.bind_some]
  rw [next_nat (by omega)]
  exact g1
def aptB (c : Config) (s : Nat) : Bool := quoB c s && (greatest c (ndiff (2 ^ c.Members.length - 1) s) != 0)
def aptR (c : Config) : Option Nat → Nat × Nat
  | some s => (s, greatest c (ndiff (2 ^ c.Members.length - 1) s))
  | none => (0, 0)
def apart (c : Config) : Nat × Nat := aptR c ((ordSub (2 ^ c.Members.length - 1)).find? (aptB c))
def pairI (p : Nat × Nat) : Int × Int := (p.1, p.2)
theorem members_int {n : Nat} (hn : n ≤ 10) : subI .i64 (shlI .i64 1 ((n : Nat) : Int)) 1 = ((2 ^ n - 1 : Nat) : Int) := by
  have hp := pow10 hn
  have hp1 := Nat.two_pow_pos n
  rw [shl1 (by omega) (by omega), Int.toNat_natCast, subI_one (by omega) (by omega)]
theorem find_l1 {c : Config} (hc : SmallC c) (hn : c.Members.length ≤ 10) : ∀ (suf pre : List Nat) (s : Nat), ordSub (2 ^ c.Members.length - 1) = pre ++ s :: suf →
    z1g ((c.Members.length : Nat) : Int) (s : Int) true c.Members = some (pairI (aptR c ((s :: suf).find? (aptB c)))) := by
  have hp := pow10 hn
  have hp1 := Nat.two_pow_pos c.Members.length
  intro suf
  induction suf with
  | nil =>
    intro pre s e
    have hord := ordSub_ord (2 ^ c.Members.length - 1)
    have hs : s < 2 ^ c.Members.length := nat_sub.2 (mem_ordSub.1 (by rw [e]; simp))
    obtain ⟨t', b, g1, g2, g3⟩ := pnext_ok hn hs
    have hb : b = false := by
      cases b with
      | false => rfl
      | true =>
        obtain ⟨h1, h2, _⟩ := g2 rfl
        have hm : t' ∈ ordSub (2 ^ c.Members.length - 1) := mem_ordSub.2 (nat_sub.1 h1)
        rw [e] at hm hord
        rw [List.pairwise_append] at hord
        rcases List.mem_append.1 hm with h | h
        · exact absurd (nlt_trans h2 (hord.2.2 t' h s (by simp))) (nlt_irrefl _)
        · simp at h; subst h; exact absurd h2 (nlt_irrefl _)
    subst hb
    have hnext : z1g ((c.Members.length : Nat) : Int) (t' : Int) false c.Members = some (0, 0) := by
      apply z1g_le; rfl
    have hlt : ndiff (2 ^ c.Members.length - 1) s < 1024 := ndiff_lt' (by omega)
    apply z1g_le
    rw [show Config.mk c.Members = c from rfl, pquorum_ok (by omega) hc]
    simp only [cond_true, Option.bind_some]
    cases hq : quoB c s with
    | false =>
      simp only [Bool.not_false, cond_true]
      rw [g1]
      simp only [Option.bind_some]
      rw [hnext]
      simp [aptB, hq, aptR, pairI]
    | true =>
      have hm : z1t c = some ((2 ^ c.Members.length - 1 : Nat) : Int) := by
        apply z1t_le
        rw [chk_true (by omega), members_int hn]
      simp only [Bool.not_true, cond_false]
      rw [hm]
      simp only [Option.bind_some]
      rw [andNotI_nat (by omega) (by omega), pgreatest_ok hlt hc]
      simp only [Option.bind_some, neB_nat]
      cases hg : (greatest c (ndiff (2 ^ c.Members.length - 1) s) != 0) with
      | false =>
        simp only [cond_false]
        rw [g1]
        simp only [Option.bind_some]
        rw [hnext]
        have : aptB c s = false := by simp only [aptB, hq, hg]; rfl
        simp [this, aptR, pairI]
      | true =>
        simp only [cond_true]
        have : aptB c s = true := by simp only [aptB, hq, hg]; rfl
        simp [this, aptR, pairI]
  | cons v suf ih =>
    intro pre s e
    have hord := ordSub_ord (2 ^ c.Members.length - 1)
    have hs : s < 2 ^ c.Members.length := nat_sub.2 (mem_ordSub.1 (by rw [e]; simp))
    have hv : v < 2 ^ c.Members.length := nat_sub.2 (mem_ordSub.1 (by rw [e]; simp))
    obtain ⟨t', b, g1, g2, g3⟩ := pnext_ok hn hs
    rw [e, List.pairwise_append, List.pairwise_cons, List.pairwise_cons] at hord
    have hsv := hord.2.1.1 v (by simp)
    have hb : b = true := by
      cases b with
      | true => rfl
      | false => exact absurd hsv (g3 rfl v hv)
    subst hb
    obtain ⟨h1, h2, h3⟩ := g2 rfl
    have ht : t' = v := by
      rcases h3 v hv hsv with h | h
      · exact h.symm
      · have hm : t' ∈ ordSub (2 ^ c.Members.length - 1) := mem_ordSub.2 (nat_sub.1 h1)
        rw [e] at hm
        rcases List.mem_append.1 hm with h' | h'
        · exact absurd (nlt_trans h2 (hord.2.2 t' h' s (by simp))) (nlt_irrefl _)
        · rcases List.mem_cons.1 h' with h'' | h''
          · subst h''; exact absurd h2 (nlt_irrefl _)
          · rcases List.mem_cons.1 h'' with h4 | h4
            · exact h4
            · exact absurd (nlt_trans h (hord.2.1.2.1 t' h4)) (nlt_irrefl _)
    subst ht
    have hnext := ih (pre ++ [s]) t' (by rw [e]; simp)
    have hlt : ndiff (2 ^ c.Members.length - 1) s < 1024 := ndiff_lt' (by omega)
    apply z1g_le
    rw [show Config.mk c.Members = c from rfl, pquorum_ok (by omega) hc]
    simp only [cond_true, Option.bind_some]
    cases hq : quoB c s with
    | false =>
      simp only [Bool.not_false, cond_true]
      rw [g1]
      simp only [Option.bind_some]
      rw [hnext, List.find?_cons (a := s)]
      simp [aptB, hq]
    | true =>
      have hm : z1t c = some ((2 ^ c.Members.length - 1 : Nat) : Int) := by
        apply z1t_le
        rw [chk_true (by omega), members_int hn]
      simp only [Bool.not_true, cond_false]
      rw [hm]
      simp only [Option.bind_some]
      rw [andNotI_nat (by omega) (by omega), pgreatest_ok hlt hc]
      simp only [Option.bind_some, neB_nat]
      cases hg : (greatest c (ndiff (2 ^ c.Members.length - 1) s) != 0) with
      | false =>
        simp only [cond_false]
        rw [g1]
        simp only [Option.bind_some]
        have : aptB c s = false := by simp only [aptB, hq, hg]; rfl
        rw [hnext, List.find?_cons (a := s), this]
      | true =>
        simp only [cond_true]
        have : aptB c s = true := by simp only [aptB, hq, hg]; rfl
        rw [List.find?_cons (a := s), this]; rfl
theorem ordSub_head (u : Nat) : ∃ suf, ordSub u = 0 :: suf := by
  have h0 : (0 : Nat) ∈ ordSub u := mem_ordSub.2 fun i hi => by simp at hi
  cases h : ordSub u with
  | nil => rw [h] at h0; cases h0
  | cons a suf =>
    have ho := ordSub_ord u
    rw [h] at h0 ho
    rcases List.mem_cons.1 h0 with e | hm
    · exact ⟨suf, by rw [e]⟩
    · have := (List.pairwise_cons.1 ho).1 0 hm
      have h1 : pc 0 = 0 := by decide
      rcases this with h2 | ⟨_, h2⟩ <;> omega
theorem pfind_ok {c : Config} (hc : SmallC c) (hn : c.Members.length ≤ 10) : z32 c = some (pairI (apart c)) := by
  obtain ⟨suf, h⟩ := ordSub_head (2 ^ c.Members.length - 1)
  apply z32_le
  have := find_l1 hc hn suf [] 0 h
  rw [← h] at this
  exact this
theorem apart_spec {c : Config} (hn : c.Members.length ≤ 10) : ((apart c).1 = 0 ∧ (apart c).2 = 0 ∧ ∀ a b, Quorum c a → Quorum c b → a &&& b = 0 → False) ∨
    (Quorum c (apart c).1 ∧ Quorum c (apart c).2 ∧ (apart c).1 &&& (apart c).2 = 0 ∧ (apart c).1 ≠ 0) := by
  have hp := pow10 hn
  have hp1 := Nat.two_pow_pos c.Members.length
  unfold apart
  cases h : (ordSub (2 ^ c.Members.length - 1)).find? (aptB c) with
  | none =>
    refine .inl ⟨rfl, rfl, fun a b ha hb hab => ?_⟩
    have hla : a < 2 ^ c.Members.length := Nat.lt_of_le_of_lt (sub_le ha.2.1) (decl_members hn)
    have hlb : b < 2 ^ c.Members.length := Nat.lt_of_le_of_lt (sub_le hb.2.1) (decl_members hn)
    have hno := List.find?_eq_none.1 h a (mem_ordSub.2 (nat_sub.1 hla))
    apply hno
    have hqa := (quoB_iff (by omega)).2 ha
    have hlt : ndiff (2 ^ c.Members.length - 1) a < 1024 := ndiff_lt' (by omega)
    have hsub : Sub b (ndiff (2 ^ c.Members.length - 1) a) := fun i hi => by
      rw [testBit_ndiff, nat_sub.1 hlb i hi]
      cases hai : a.testBit i with
      | false => rfl
      | true =>
        have : (a &&& b).testBit i = true := by rw [Nat.testBit_and, hai, hi]; rfl
        rw [hab] at this; simp at this
    have hg := greatest_max c hlt hb hsub
    have : greatest c (ndiff (2 ^ c.Members.length - 1) a) ≠ 0 := fun h0 => by
      rw [h0] at hg
      have := sub_le hg
      exact hb.1 (by omega)
    simp [aptB, hqa, this]
  | some s =>
    have h1 := List.find?_some h
    have h2 := nat_sub.2 (mem_ordSub.1 (List.mem_of_find?_eq_some h))
    simp only [aptB, Bool.and_eq_true, bne_iff_ne] at h1
    have hlt : ndiff (2 ^ c.Members.length - 1) s < 1024 := ndiff_lt' (by omega)
    have hQ := (quoB_iff (by omega)).1 h1.1
    refine .inr ⟨hQ, greatest_quorum c hlt h1.2, ?_, hQ.1⟩
    apply Nat.eq_of_testBit_eq
    intro i
    show (s &&& greatest c (ndiff (2 ^ c.Members.length - 1) s)).testBit i = _
    rw [Nat.testBit_and, Nat.zero_testBit]
    cases hsi : s.testBit i with
    | false => rfl
    | true =>
      cases hgi : (greatest c (ndiff (2 ^ c.Members.length - 1) s)).testBit i with
      | false => rfl
      | true =>
        have := (greatest_sub c hlt).trans (Sub.and_left _ _) i hgi
        rw [testBit_ndiff, hsi] at this
        simp at this
def twoB (c : Config) : Bool := (apart c).1 != 0
theorem twoB_iff {c : Config} (hn : c.Members.length ≤ 10) : twoB c = true ↔ ∃ a b, Quorum c a ∧ Quorum c b ∧ a &&& b = 0 := by
  simp only [twoB, bne_iff_ne]
  rcases apart_spec hn with ⟨h1, _, h2⟩ | ⟨h1, h2, h3, h4⟩
  · exact ⟨fun h => absurd h1 h, fun ⟨a, b, ha, hb, hab⟩ => absurd (h2 a b ha hb hab) id⟩
  · exact ⟨fun _ => ⟨_, _, h1, h2, h3⟩, fun _ => h4⟩
theorem pholds_ok {c : Config} (hc : SmallC c) (he : cerr c = 0) : z2v c = some (!twoB c, 0) := by
  apply z2v_le
  rw [pcerr_ok hc, he]
  simp only [Option.bind_some, neB_self, cond_false]
  rw [pfind_ok hc (cerr_zero.1 he).1]
  simp only [Option.bind_some, pairI, eqB_nat, twoB]
  congr 2
  cases h : ((apart c).1 == 0) <;> simp_all
end Go.Proofs.Ytfjcndlhpfbcgaa
