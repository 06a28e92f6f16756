/- Quorums and the greatest quorum: what the reference computes, and what it means. -/
import Derived.Test.YtflmdbdigoeclaaP10Sets
namespace Go.Proofs.Ytflmdbdigoeclaa
open Go Go.Ab
def Quorum (c : Config) (s : Nat) : Prop := s ≠ 0 ∧ Sub s (decl c) ∧ ∀ k, s.testBit k = true → sat s (tr c k) = true
def SmallC (c : Config) : Prop := c.Members.length < 1152921504606846976 ∧ ∀ m ∈ c.Members, Small m.Trust
theorem valid_small {t : Trust} (h : valid t = true) : Small t := by
  simp only [valid, Bool.and_eq_true, decide_eq_true_eq] at h
  unfold Small; omega
theorem ConfOk.smallC {n : Nat} {c : Config} (h : ConfOk n c) (hn : n ≤ 10) : SmallC c := by
  refine ⟨by have := h.le; omega, fun m hm => ?_⟩
  have := h.mem m hm
  unfold MemOk at this
  split at this
  · exact valid_small this.1
  · rw [this]; unfold Small; simp [blank, size, sizes]
theorem ConfOk.good {n : Nat} {c : Config} (h : ConfOk n c) : ∀ m ∈ c.Members, m.Declared = true → Good (c.Members.length : Int) m.Trust := fun m hm hd => by
  have := h.mem m hm
  unfold MemOk at this
  rwa [if_pos hd] at this
theorem member_of {c : Config} {k : Nat} (h : (decl c).testBit k = true) : ∃ m, c.Members[k]? = some m ∧ tr c k = m.Trust ∧ m.Declared = true := by
  obtain ⟨_, m, h1, h2⟩ := testBit_decl.1 h
  exact ⟨m, h1, by simp [tr, h1], h2⟩
theorem quorum_l1 {c : Config} {s : Nat} (hs : s < 1024) (hd : Sub s (decl c)) (hc : SmallC c) (l : List Nat) (hl : l.length ≤ 10) : ∀ (suf : List Nat) (i : Nat), l.drop i = suf → (∀ k ∈ suf, s.testBit k = true) →
    ∃ r, ref09_Quorum_l1 (s : Int) (l.map Int.ofNat) ((l.length : Nat) : Int) (i : Int) c.Members = some r ∧ (r = true ↔ ∀ k ∈ suf, sat s (tr c k) = true)
  | [], i, h, hm => by
    refine ⟨true, ?_, by simp⟩
    apply ref09_Quorum_l1_le
    rw [ltB_end h]
    rfl
  | k :: suf, i, h, hm => by
    have hlt := lt_drop h
    obtain ⟨m, h1, h2, _⟩ := member_of (hd k (hm k (by simp)))
    have h' : (l.map Int.ofNat).drop i = (k : Int) :: suf.map Int.ofNat := by rw [← List.map_drop, h]; rfl
    obtain ⟨r, e1, e2⟩ := quorum_l1 hs hd hc l hl suf (i + 1) (drop_next h) (fun x hx => hm x (by simp [hx]))
    have step : ∀ res, (bif (!(sat s m.Trust)) then some false else ref09_Quorum_l1 (s : Int) (l.map Int.ofNat) ((l.length : Nat) : Int) ((i + 1 : Nat) : Int) c.Members) = some res → ref09_Quorum_l1 (s : Int) (l.map Int.ofNat) ((l.length : Nat) : Int) (i : Int) c.Members = some res := by
      intro res hres
      apply ref09_Quorum_l1_le
      rw [ltB_true (by omega), nth_drop h', nth_get (by omega) (show c.Members[((k : Nat) : Int).toNat]? = some m by simpa using h1), satisfied_ok hs m.Trust (hc.2 m (List.mem_of_getElem? h1)), next_nat (by omega)]
      exact hres
    cases hq : sat s (tr c k) with
    | true =>
      rw [h2] at hq
      exact ⟨r, step r (by rw [hq]; exact e1), by rw [e2]; simp [h2, hq]⟩
    | false =>
      rw [h2] at hq
      exact ⟨false, step false (by rw [hq]; rfl), by simp [h2, hq]⟩
theorem quorum_ok {c : Config} {s : Nat} (hs : s < 1024) (hc : SmallC c) : ∃ r, ref09_Quorum c (s : Int) = some r ∧ (r = true ↔ Quorum c s) := by
  by_cases h0 : s = 0
  · refine ⟨false, ?_, by simp [Quorum, h0]⟩
    apply ref09_Quorum_le
    rw [ref01_Valid_ok hs]
    simp only [Option.bind_some, Bool.not_true, cond_false, h0, Int.natCast_zero, eqB_self, cond_true]
  · by_cases hd : Sub s (decl c)
    · obtain ⟨r, e1, e2⟩ := quorum_l1 hs hd hc (nodes s) (nodes_len s) (nodes s) 0 rfl (fun k hk => (mem_nodes.1 hk).1)
      refine ⟨r, ?_, ?_⟩
      · apply ref09_Quorum_le
        rw [ref01_Valid_ok hs]
        simp only [Option.bind_some, Bool.not_true, cond_false, eqB_ne (show (s : Int) ≠ 0 by omega), declared_ok c hc.1]
        rw [andI_nat (by omega) (by have := decl_lt c; omega), sub_iff.1 hd, neB_self, nodes_ok hs]
        simp only [cond_false, Option.bind_some, List.length_map]
        exact e1
      · rw [e2]
        constructor
        · intro h; exact ⟨h0, hd, fun k hk => h k (mem_nodes.2 ⟨hk, bit_lt_of hs hk⟩)⟩
        · intro h k hk; exact h.2.2 k (mem_nodes.1 hk).1
    · refine ⟨false, ?_, by simp [Quorum, hd]⟩
      apply ref09_Quorum_le
      rw [ref01_Valid_ok hs]
      simp only [Option.bind_some, Bool.not_true, cond_false, eqB_ne (show (s : Int) ≠ 0 by omega), declared_ok c hc.1]
      rw [andI_nat (by omega) (by have := decl_lt c; omega), neB_ne (by rw [sub_iff] at hd; omega)]
      rfl
theorem testBit_sub_pow {s k : Nat} (h : s.testBit k = true) (i : Nat) : (s - 2 ^ k).testBit i = (s.testBit i && decide (i ≠ k)) := by
  have hp := Nat.two_pow_pos k
  have hodd : s / 2 ^ k % 2 = 1 := by
    have := h
    rw [Nat.testBit_eq_decide_div_mod_eq, decide_eq_true_eq] at this; exact this
  have hr : s % 2 ^ k < 2 ^ k := Nat.mod_lt _ hp
  have e0 : s = 2 ^ k * (2 * (s / 2 ^ k / 2) + 1) + s % 2 ^ k := by
    have e1 : 2 * (s / 2 ^ k / 2) + 1 = s / 2 ^ k := by omega
    rw [e1]; exact (Nat.div_add_mod s (2 ^ k)).symm
  generalize s / 2 ^ k / 2 = q at e0
  generalize s % 2 ^ k = r at e0 hr
  have e2 : s - 2 ^ k = 2 ^ k * (2 * q) + r := by rw [Nat.mul_add] at e0; omega
  rw [e2, e0, Nat.testBit_two_pow_mul_add _ hr, Nat.testBit_two_pow_mul_add _ hr]
  by_cases h1 : i < k
  · have : i ≠ k := by omega
    simp [h1, this]
  · rw [if_neg h1, if_neg h1]
    by_cases h2 : i = k
    · subst h2; simp [Nat.testBit_zero]
    · obtain ⟨d, hd⟩ : ∃ d, i - k = d + 1 := ⟨i - k - 1, by omega⟩
      rw [hd, Nat.testBit_succ, Nat.testBit_succ, show 2 * q / 2 = q by omega, show (2 * q + 1) / 2 = q by omega]
      simp [h2]
def unhappy (c : Config) (s : Nat) : Option Nat := (nodes s).find? fun k => !sat s (tr c k)
def elim (c : Config) : Nat → Nat → List Nat × Nat
  | 0, s => ([], s)
  | n + 1, s => match unhappy c s with
    | none => ([], s)
    | some k => (k :: (elim c n (s - 2 ^ k)).1, (elim c n (s - 2 ^ k)).2)
def greatest (c : Config) (s : Nat) : Nat := (elim c 1024 (s &&& decl c)).2
theorem unhappy_some {c : Config} {s k : Nat} (h : unhappy c s = some k) : s.testBit k = true ∧ k < 10 ∧ sat s (tr c k) = false := by
  unfold unhappy at h
  have h1 := List.find?_some h
  have h2 := mem_nodes.1 (List.mem_of_find?_eq_some h)
  exact ⟨h2.1, h2.2, by simpa using h1⟩
theorem unhappy_none {c : Config} {s : Nat} (hs : s < 1024) (h : unhappy c s = none) : ∀ k, s.testBit k = true → sat s (tr c k) = true := by
  intro k hk
  unfold unhappy at h
  have := List.find?_eq_none.1 h k (mem_nodes.2 ⟨hk, bit_lt_of hs hk⟩)
  simpa using this
theorem sub_pow {s k : Nat} (h : s.testBit k = true) : s - 2 ^ k < s ∧ Sub (s - 2 ^ k) s := by
  have h1 : 2 ^ k ≤ s := Nat.ge_two_pow_of_testBit h
  have := Nat.two_pow_pos k
  refine ⟨by omega, fun i hi => ?_⟩
  rw [testBit_sub_pow h] at hi
  simp only [Bool.and_eq_true] at hi
  exact hi.1
theorem elim_facts (c : Config) : ∀ (n s : Nat), s < n → s < 1024 → Sub (elim c n s).2 s ∧ unhappy c (elim c n s).2 = none ∧ (∀ q, Sub q s → (∀ k, q.testBit k = true → sat q (tr c k) = true) → Sub q (elim c n s).2)
  | 0, s, h, _ => by omega
  | n + 1, s, h, hs => by
    simp only [elim]
    cases hu : unhappy c s with
    | none => exact ⟨Sub.refl s, hu, fun q hq _ => hq⟩
    | some k =>
      obtain ⟨h1, h2, h3⟩ := unhappy_some hu
      obtain ⟨h4, h5⟩ := sub_pow h1
      obtain ⟨i1, i2, i3⟩ := elim_facts c n (s - 2 ^ k) (by omega) (by omega)
      refine ⟨i1.trans h5, i2, fun q hq hsat => i3 q (fun i hi => ?_) hsat⟩
      rw [testBit_sub_pow h1, hq i hi]
      have : i ≠ k := by
        rintro rfl
        have := sat_mono (has_sub hq) _ (hsat i hi)
        rw [h3] at this; cases this
      simp [this]
theorem greatest_sub (c : Config) {s : Nat} (hs : s < 1024) : Sub (greatest c s) (s &&& decl c) := by
  have hlt : s &&& decl c < 1024 := Nat.lt_of_le_of_lt Nat.and_le_left hs
  exact (elim_facts c 1024 _ hlt hlt).1
theorem greatest_lt (c : Config) {s : Nat} (hs : s < 1024) : greatest c s < 1024 := ((greatest_sub c hs).trans (Sub.and_left _ _)).lt hs
theorem greatest_quorum (c : Config) {s : Nat} (hs : s < 1024) (h0 : greatest c s ≠ 0) : Quorum c (greatest c s) := by
  have hlt : s &&& decl c < 1024 := Nat.lt_of_le_of_lt Nat.and_le_left hs
  exact ⟨h0, (greatest_sub c hs).trans (Sub.and_right _ _), unhappy_none (greatest_lt c hs) (elim_facts c 1024 _ hlt hlt).2.1⟩
theorem greatest_max (c : Config) {s : Nat} (hs : s < 1024) {q : Nat} (hq : Quorum c q) (h : Sub q s) : Sub q (greatest c s) := by
  have hlt : s &&& decl c < 1024 := Nat.lt_of_le_of_lt Nat.and_le_left hs
  refine (elim_facts c 1024 _ hlt hlt).2.2 q (fun i hi => ?_) hq.2.2
  rw [Nat.testBit_and, h i hi, hq.2.1 i hi]; rfl
theorem subI_nat {a b : Nat} (h : b ≤ a) (ha : a < 4611686018427387904) : subI .i64 (a : Int) ((b : Nat) : Int) = ((a - b : Nat) : Int) := by
  rw [subI64 (by omega) (by omega)]; omega
theorem elim_step {c : Config} {s : Nat} (hs : s < 1024) (hd : Sub s (decl c)) (hc : SmallC c) (acc : List Int) (l : List Nat) (hl : l.length ≤ 10) : ∀ (suf : List Nat) (i : Nat), l.drop i = suf → (∀ k ∈ suf, s.testBit k = true) → acc.length < 1024 → ∀ res,
    (match suf.find? (fun k => !sat s (tr c k)) with
      | none => ref09_Elimination_l3 (s : Int) acc false (l.map Int.ofNat) ((l.length : Nat) : Int) ((l.length : Nat) : Int) false c.Members
      | some k => ref09_Elimination_l1 ((s - 2 ^ k : Nat) : Int) (acc ++ [(k : Int)]) true c.Members) = some res →
    i ≤ l.length → ref09_Elimination_l2 (s : Int) acc false (l.map Int.ofNat) ((l.length : Nat) : Int) (i : Int) c.Members = some res
  | [], i, h, hm, ha, res, hres, hil => by
    have : i = l.length := by have := List.drop_eq_nil_iff.1 h; omega
    subst this
    apply ref09_Elimination_l2_le
    rw [ltB_end h]
    exact hres
  | k :: suf, i, h, hm, ha, res, hres, hil => by
    have hlt := lt_drop h
    have hk := hm k (by simp)
    have hk10 := bit_lt_of hs hk
    obtain ⟨m, h1, h2, _⟩ := member_of (hd k hk)
    have h' : (l.map Int.ofNat).drop i = (k : Int) :: suf.map Int.ofNat := by rw [← List.map_drop, h]; rfl
    apply ref09_Elimination_l2_le
    rw [ltB_true (by omega), nth_drop h', nth_get (by omega) (show c.Members[((k : Nat) : Int).toNat]? = some m by simpa using h1), satisfied_ok hs m.Trust (hc.2 m (List.mem_of_getElem? h1)), next_nat (by omega)]
    simp only [cond_true, Option.bind_some]
    rw [List.find?_cons] at hres
    cases hq : sat s (tr c k) with
    | true =>
      rw [← h2, hq]
      simp only [hq, Bool.not_true] at hres
      simp only [Bool.not_true, cond_false]
      exact elim_step hs hd hc acc l hl suf (i + 1) (drop_next h) (fun x hx => hm x (by simp [hx])) ha res hres (by omega)
    | false =>
      rw [← h2, hq]
      simp only [hq, Bool.not_false] at hres
      simp only [Bool.not_false, cond_true]
      have hp : 2 ^ k ≤ s := Nat.ge_two_pow_of_testBit hk
      rw [chk_true (by omega), capOk_true (by simp [maxElems]; omega), shl1 (by omega) (by omega), Int.toNat_natCast, subI_nat hp (by omega)]
      exact hres
theorem elim_len (c : Config) : ∀ n s, s ≤ n → (elim c n s).1.length ≤ s
  | 0, s, _ => by simp [elim]
  | n + 1, s, h => by
    simp only [elim]
    cases hu : unhappy c s with
    | none => simp
    | some k =>
      have := sub_pow (unhappy_some hu).1
      have := elim_len c n (s - 2 ^ k) (by omega)
      simp only [List.length_cons]; omega
theorem elim_run {c : Config} (hc : SmallC c) : ∀ (n s : Nat) (acc : List Int), s < n → s < 1024 → Sub s (decl c) → acc.length + s < 1024 → ref09_Elimination_l1 (s : Int) acc true c.Members = some (acc ++ (elim c n s).1.map Int.ofNat)
  | 0, s, acc, h, _, _, _ => by omega
  | n + 1, s, acc, h, hs, hd, ha => by
    apply ref09_Elimination_l1_le
    simp only [cond_true, nodes_ok hs, Option.bind_some, List.length_map]
    refine elim_step hs hd hc acc (nodes s) (nodes_len s) (nodes s) 0 rfl (fun k hk => (mem_nodes.1 hk).1) (by omega) _ ?_ (Nat.zero_le _)
    simp only [elim]
    rw [show (nodes s).find? (fun k => !sat s (tr c k)) = unhappy c s from rfl]
    cases hu : unhappy c s with
    | none =>
      simp only
      apply ref09_Elimination_l3_le
      simp
    | some k =>
      obtain ⟨h1, h2, h3⟩ := unhappy_some hu
      obtain ⟨h4, h5⟩ := sub_pow h1
      simp only
      rw [elim_run hc n (s - 2 ^ k) _ (by omega) (by omega) (h5.trans hd) (by simp; omega)]
      simp
theorem greatest_l1 (c : Config) (ms : List Member) (l : List Nat) (hl : l.length < 2000) : ∀ (n s i : Nat), s < n → s < 1024 → l.drop i = (elim c n s).1 → ref09_Greatest_l1 (s : Int) (l.map Int.ofNat) ((l.length : Nat) : Int) (i : Int) ms = some (((elim c n s).2 : Nat) : Int)
  | 0, s, i, h, _, _ => by omega
  | n + 1, s, i, h, hs, hdrop => by
    simp only [elim] at hdrop ⊢
    apply ref09_Greatest_l1_le
    cases hu : unhappy c s with
    | none =>
      rw [hu] at hdrop
      simp only at hdrop ⊢
      rw [ltB_end hdrop]
      rfl
    | some k =>
      rw [hu] at hdrop
      simp only at hdrop ⊢
      obtain ⟨h1, h2, h3⟩ := unhappy_some hu
      obtain ⟨h4, h5⟩ := sub_pow h1
      have hlt := lt_drop hdrop
      have h' : (l.map Int.ofNat).drop i = (k : Int) :: ((elim c n (s - 2 ^ k)).1).map Int.ofNat := by rw [← List.map_drop, hdrop]; rfl
      have hp : 2 ^ k ≤ s := Nat.ge_two_pow_of_testBit h1
      rw [ltB_true (by omega), nth_drop h', chk_true (by omega), shl1 (by omega) (by omega), Int.toNat_natCast, subI_nat hp (by omega), next_nat (by omega)]
      exact greatest_l1 c ms l hl n (s - 2 ^ k) (i + 1) (by omega) (by omega) (drop_next hdrop)
theorem greatest_ok {c : Config} {s : Nat} (hs : s < 1024) (hc : SmallC c) : ref09_Greatest c (s : Int) = some ((greatest c s : Nat) : Int) := by
  have hlt : s &&& decl c < 1024 := Nat.lt_of_le_of_lt Nat.and_le_left hs
  have he : ref09_Elimination c (s : Int) = some ((elim c 1024 (s &&& decl c)).1.map Int.ofNat) := by
    apply ref09_Elimination_le
    rw [ref01_Valid_ok hs]
    simp only [Option.bind_some, Bool.not_true, cond_false, declared_ok c hc.1]
    rw [andI_nat (by omega) (by have := decl_lt c; omega), elim_run hc 1024 _ [] hlt hlt (Sub.and_right _ _) (by simpa using hlt)]
    rfl
  apply ref09_Greatest_le
  rw [ref01_Valid_ok hs]
  simp only [Option.bind_some, Bool.not_true, cond_false, declared_ok c hc.1, he, List.length_map]
  rw [andI_nat (by omega) (by have := decl_lt c; omega)]
  have hlen := elim_len c 1024 (s &&& decl c) (by omega)
  exact greatest_l1 c c.Members _ (by omega) 1024 _ 0 hlt hlt rfl
end Go.Proofs.Ytflmdbdigoeclaa
