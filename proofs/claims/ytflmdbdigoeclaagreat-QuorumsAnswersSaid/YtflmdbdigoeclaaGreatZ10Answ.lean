/- QuorumsAnswers: the law, on the machine. -/
import Derived.Test.YtflmdbdigoeclaaGreatZ10Rquor
import Derived.Test.YtflmdbdigoeclaaGreatZ10Awake
namespace Go.Proofs.YtflmdbdigoeclaaGreat
open Go Go.Ab
def first (l : List Nat) : Nat := l.headD 0
def symP (c : Config) (k0 k z : Nat) : Bool := sat z (tr c k) == sat z (tr c k0)
theorem psym_l2 {c : Config} (hc : SmallC c) {l : List Nat} (hl : l.length ≤ 10) (hm : ∀ k ∈ l, (decl c).testBit k = true) {z : Nat} (hz : z < 1024) {a5 : Int} {r : Bool × Int}
    (K : (l.all fun k => symP c (first l) k z) = true → quorums_Symmetric_l1 (l.map Int.ofNat) a5 (addI .i64 (z : Int) 1) c.Members = some r)
    (F : (l.all fun k => symP c (first l) k z) = false → r = (false, 0)) : ∀ (suf pre : List Nat), l = pre ++ suf → (pre.all fun k => symP c (first l) k z) = true →
    quorums_Symmetric_l2 (l.map Int.ofNat) (z : Int) a5 (z : Int) (l.map Int.ofNat) ((l.length : Nat) : Int) ((pre.length : Nat) : Int) c.Members = some r
  | [], pre, e, hp => by
    have hd := drop_pre e
    rw [List.append_nil] at e
    apply quorums_Symmetric_l2_le
    rw [ltB_end hd]
    exact K (by rw [e] at *; exact hp)
  | k :: suf, pre, e, hp => by
    have hd := drop_pre e
    have hlt := lt_drop hd
    obtain ⟨m, h1, h2, _⟩ := member_of (hm k (by rw [e]; simp))
    obtain ⟨k0, r0, hl0⟩ : ∃ k0 r0, l = k0 :: r0 := by
      cases l with
      | nil => simp at hlt
      | cons a b => exact ⟨a, b, rfl⟩
    have hf : first l = k0 := by rw [hl0]; rfl
    obtain ⟨m0, g1, g2, _⟩ := member_of (hm k0 (by rw [hl0]; simp))
    have hd0 : (l.map Int.ofNat).drop 0 = (k0 : Int) :: r0.map Int.ofNat := by rw [hl0]; rfl
    apply quorums_Symmetric_l2_le
    rw [ltB_drop hd]
    simp only [cond_true, nth_drop (map_drop_cons hd)]
    rw [show (0 : Int) = ((0 : Nat) : Int) from rfl, nth_drop hd0]
    rw [nth_get (y := m) (by omega) (by rw [Int.toNat_natCast]; exact h1), nth_get (y := m0) (by omega) (by rw [Int.toNat_natCast]; exact g1), psatisfied_ok hz m.Trust (hc.2 m (List.mem_of_getElem? h1)), psatisfied_ok hz m0.Trust (hc.2 m0 (List.mem_of_getElem? g1)), ← h2, ← g2]
    simp only [Option.bind_some]
    cases hq : (sat z (tr c k) == sat z (tr c k0)) with
    | true =>
      simp only [Bool.not_true, cond_false]
      rw [next_nat (by omega)]
      have ih := psym_l2 hc hl hm hz K F suf (pre ++ [k]) (by rw [e]; simp) (by rw [List.all_append, hp]; simp [symP, hf, hq])
      rw [show (pre ++ [k]).length = pre.length + 1 by simp] at ih
      exact ih
    | false =>
      have : (l.all fun k => symP c (first l) k z) = false := by
        rw [e] at hf ⊢
        rw [List.all_append, List.all_cons]
        simp only [symP, hf, hq, Bool.false_and, Bool.and_false]
      rw [F this]; rfl
theorem psym_l1 {c : Config} (hc : SmallC c) {l : List Nat} (hl : l.length ≤ 10) (hm : ∀ k ∈ l, (decl c).testBit k = true) {n : Nat} (hn : n ≤ 10) {b : Bool} (hb : b = true ↔ ∀ z, z < 2 ^ n → ∀ k ∈ l, symP c (first l) k z = true) : ∀ (j z : Nat), z + j = 2 ^ n → (∀ y, y < z → ∀ k ∈ l, symP c (first l) k y = true) →
    quorums_Symmetric_l1 (l.map Int.ofNat) ((2 ^ n : Nat) : Int) (z : Int) c.Members = some (b, 0)
  | 0, z, h, hp => by
    apply quorums_Symmetric_l1_le
    rw [ltB_false (by omega)]
    have : b = true := hb.2 fun y hy => hp y (by omega)
    rw [this]; rfl
  | j + 1, z, h, hp => by
    have hpw := pow10 hn
    apply quorums_Symmetric_l1_le
    rw [ltB_true (by omega)]
    simp only [cond_true, List.length_map]
    refine psym_l2 hc hl hm (by omega) (fun hall => ?_) (fun hno => ?_) l [] rfl rfl
    · rw [next_nat (by omega)]
      refine psym_l1 hc hl hm hn hb j (z + 1) (by omega) fun y hy => ?_
      by_cases hyz : y = z
      · subst hyz; exact fun k hk => List.all_eq_true.1 hall k hk
      · exact hp y (by omega)
    · have : b = false := by
        cases hbb : b with
        | false => rfl
        | true =>
          have := List.all_eq_true.2 fun k hk => hb.1 hbb z (by omega) k hk
          rw [this] at hno; cases hno
      rw [this]
theorem rsym_l2 {c : Config} (hc : SmallC c) {n : Nat} (hlen : c.Members.length = n) (hn : n ≤ 10) {l : List Nat} (hl : l.length ≤ 10) (hm : ∀ k ∈ l, (decl c).testBit k = true) {k : Nat} (hk : k ∈ l) {len i : Int} {r : Bool × Int}
    (K : (∀ z, z < 2 ^ n → symP c (first l) k z = true) → ref10_Symmetric_l1 (l.map Int.ofNat) (l.map Int.ofNat) len (addI .i64 i 1) c.Members = some r)
    (F : (∃ z, z < 2 ^ n ∧ symP c (first l) k z = false) → r = (false, 0)) : ∀ (j z : Nat), z + j = 2 ^ n → (∀ y, y < z → symP c (first l) k y = true) →
    ref10_Symmetric_l2 (l.map Int.ofNat) (k : Int) (z : Int) (l.map Int.ofNat) len i c.Members = some r
  | 0, z, h, hp => by
    have hpw := pow10 hn
    apply ref10_Symmetric_l2_le
    rw [hlen, chk_true (by omega), shl1 (by omega) (by omega), Int.toNat_natCast, ltB_false (by omega)]
    exact K fun y hy => hp y (by omega)
  | j + 1, z, h, hp => by
    have hpw := pow10 hn
    have hz : z < 1024 := by omega
    obtain ⟨m, h1, h2, _⟩ := member_of (hm k hk)
    obtain ⟨k0, r0, hl0⟩ : ∃ k0 r0, l = k0 :: r0 := by
      cases l with
      | nil => cases hk
      | cons a b => exact ⟨a, b, rfl⟩
    have hf : first l = k0 := by rw [hl0]; rfl
    obtain ⟨m0, g1, g2, _⟩ := member_of (hm k0 (by rw [hl0]; simp))
    have hd0 : (l.map Int.ofNat).drop 0 = (k0 : Int) :: r0.map Int.ofNat := by rw [hl0]; rfl
    apply ref10_Symmetric_l2_le
    rw [hlen, chk_true (by omega), shl1 (by omega) (by omega), Int.toNat_natCast, ltB_true (by omega)]
    simp only [cond_true]
    rw [show (0 : Int) = ((0 : Nat) : Int) from rfl, nth_drop hd0]
    rw [nth_get (y := m) (by omega) (by rw [Int.toNat_natCast]; exact h1), nth_get (y := m0) (by omega) (by rw [Int.toNat_natCast]; exact g1), satisfied_ok hz m.Trust (hc.2 m (List.mem_of_getElem? h1)), satisfied_ok hz m0.Trust (hc.2 m0 (List.mem_of_getElem? g1)), ← h2, ← g2]
    simp only [Option.bind_some]
    cases hq : (sat z (tr c k) == sat z (tr c k0)) with
    | true =>
      simp only [Bool.not_true, cond_false]
      rw [next_nat (by omega)]
      refine rsym_l2 hc hlen hn hl hm hk K F j (z + 1) (by omega) fun y hy => ?_
      by_cases hyz : y = z
      · subst hyz; simp only [symP, hf, hq]
      · exact hp y (by omega)
    | false =>
      rw [F ⟨z, by omega, by simp only [symP, hf, hq]⟩]; rfl
theorem rsym_l1 {c : Config} (hc : SmallC c) {n : Nat} (hlen : c.Members.length = n) (hn : n ≤ 10) {l : List Nat} (hl : l.length ≤ 10) (hm : ∀ k ∈ l, (decl c).testBit k = true) {b : Bool} (hb : b = true ↔ ∀ z, z < 2 ^ n → ∀ k ∈ l, symP c (first l) k z = true) : ∀ (suf pre : List Nat), l = pre ++ suf → (∀ k ∈ pre, ∀ z, z < 2 ^ n → symP c (first l) k z = true) →
    ref10_Symmetric_l1 (l.map Int.ofNat) (l.map Int.ofNat) ((l.length : Nat) : Int) ((pre.length : Nat) : Int) c.Members = some (b, 0)
  | [], pre, e, hp => by
    have hd := drop_pre e
    rw [List.append_nil] at e
    apply ref10_Symmetric_l1_le
    rw [ltB_end hd]
    have : b = true := hb.2 fun z hz k hk => hp k (by rw [← e]; exact hk) z hz
    rw [this]; rfl
  | k :: suf, pre, e, hp => by
    have hd := drop_pre e
    have hlt := lt_drop hd
    have hpos := Nat.two_pow_pos n
    apply ref10_Symmetric_l1_le
    rw [ltB_drop hd]
    simp only [cond_true, nth_drop (map_drop_cons hd)]
    refine rsym_l2 hc hlen hn hl hm (show k ∈ l by rw [e]; simp) (fun hall => ?_) (fun ⟨z, hz, hno⟩ => ?_) (2 ^ n) 0 (by omega) (fun y hy => by omega)
    · rw [next_nat (by omega)]
      have ih := rsym_l1 hc hlen hn hl hm hb suf (pre ++ [k]) (by rw [e]; simp) (fun q hq z hz => by
        rcases List.mem_append.1 hq with hq | hq
        · exact hp q hq z hz
        · rw [List.mem_singleton] at hq; subst hq; exact hall z hz)
      rw [show (pre ++ [k]).length = pre.length + 1 by simp] at ih
      exact ih
    · have : b = false := by
        cases hbb : b with
        | false => rfl
        | true =>
          have := hb.1 hbb z hz k (by rw [e]; simp)
          rw [hno] at this; cases this
      rw [this]
theorem sym_both {c : Config} (hc : SmallC c) : ∃ r : Bool × Int, quorums_Symmetric c = some r ∧ ref10_Symmetric c = some r := by
  by_cases he : cerr c = 0
  · have hn := (cerr_zero.1 he).1
    have hp := pow10 hn
    have hl := nodes_len (decl c)
    have hm : ∀ k ∈ nodes (decl c), (decl c).testBit k = true := fun k hk => (mem_nodes.1 hk).1
    obtain ⟨b, hb⟩ : ∃ b : Bool, b = true ↔ ∀ z, z < 2 ^ c.Members.length → ∀ k ∈ nodes (decl c), symP c (first (nodes (decl c))) k z = true := by
      by_cases h : ∀ z, z < 2 ^ c.Members.length → ∀ k ∈ nodes (decl c), symP c (first (nodes (decl c))) k z = true
      · exact ⟨true, fun _ => h, fun _ => rfl⟩
      · exact ⟨false, fun h' => (by cases h'), fun h' => absurd h' h⟩
    refine ⟨(b, 0), ?_, ?_⟩
    · apply quorums_Symmetric_le
      rw [pcerr_ok hc, he]
      simp only [Option.bind_some, neB_self, cond_false]
      rw [pdeclared_ok c hc.1]
      simp only [Option.bind_some]
      rw [pnodes_ok (decl_lt c)]
      simp only [Option.bind_some]
      rw [chk_true (by omega), shl1 (by omega) (by omega), Int.toNat_natCast]
      exact psym_l1 hc hl hm hn hb (2 ^ c.Members.length) 0 (by omega) fun y hy => by omega
    · apply ref10_Symmetric_le
      rw [rcerr_ok hc, he]
      simp only [Option.bind_some, neB_self, cond_false]
      rw [declared_ok c hc.1]
      simp only [Option.bind_some]
      rw [nodes_ok (decl_lt c)]
      simp only [Option.bind_some, List.length_map]
      exact rsym_l1 hc rfl hn hl hm hb (nodes (decl c)) [] rfl (by simp)
  · refine ⟨(false, cerr c), ?_, ?_⟩
    · apply quorums_Symmetric_le
      rw [pcerr_ok hc]
      simp only [Option.bind_some, neB_ne he, cond_true]
    · apply ref10_Symmetric_le
      rw [rcerr_ok hc]
      simp only [Option.bind_some, neB_ne he, cond_true]
theorem ans_l1 {raw cm : List Member} {tl : List Int} {ti : Int} {cs : List Config} (hcs : cs.length < 100) (hc : ∀ w ∈ cs, SmallC w) : ∀ (suf : List Config) (i : Nat), cs.drop i = suf →
    law10_QuorumsAnswers_l1 cs ((cs.length : Nat) : Int) (i : Int) raw tl ti cm = some true
  | [], i, h => by
    apply law10_QuorumsAnswers_l1_le
    rw [ltB_end h, awake_true]
    rfl
  | w :: suf, i, h => by
    have hlt := lt_drop h
    have hw := hc w (List.mem_of_mem_drop (by rw [h]; simp))
    obtain ⟨l1, e1, a1, a2, a3, _⟩ := minimal_both hw
    obtain ⟨r2, b1, b2⟩ := count_both hw
    obtain ⟨l3, e3, p1, p2, p3⟩ := parts_both hw
    obtain ⟨r4, c1, c2⟩ := core_both hw
    obtain ⟨r5, s1, s2⟩ := sym_both hw
    have ih := ans_l1 (raw := raw) (cm := cm) (tl := tl) (ti := ti) hcs hc suf (i + 1) (drop_next h)
    apply law10_QuorumsAnswers_l1_le
    rw [ltB_drop h]
    simp only [cond_true, nth_drop h]
    rw [a1]
    simp only [Option.bind_some]
    rw [a2]
    simp only [Option.bind_some]
    rw [b1]
    simp only [Option.bind_some]
    rw [b2]
    simp only [Option.bind_some]
    rw [p1]
    simp only [Option.bind_some]
    rw [p2]
    simp only [Option.bind_some]
    rw [c1]
    simp only [Option.bind_some]
    rw [c2]
    simp only [Option.bind_some]
    rw [s1]
    simp only [Option.bind_some]
    rw [s2]
    simp only [Option.bind_some, neB_self, cond_false, beq_self_eq_true, Bool.not_true]
    rw [mkints_dec (by simp; omega), decide_eq_true rfl]
    simp only [Option.bind_some, Bool.not_true, cond_false]
    rw [mkints_dec (by omega), decide_eq_true rfl]
    simp only [Option.bind_some, Bool.not_true, cond_false]
    rw [next_nat (by omega)]
    exact ih
theorem answers_law (t : List Int) (r : Config) (hr : ∀ m ∈ r.Members, raw m.Trust = true) : law10_QuorumsAnswers t r = some true := by
  obtain ⟨b, s1, s2⟩ := smallC_ok hr
  apply law10_QuorumsAnswers_le
  rw [s1]
  cases b with
  | false => simp only [Option.bind_some, Bool.not_false, cond_true, awake_true]
  | true =>
    simp only [Option.bind_some, Bool.not_true, cond_false]
    obtain ⟨tl, a1, a2⟩ := New_ok t
    obtain ⟨c, j, b1, b2, b3⟩ := Config_ok (n := 9) (by decide) (by decide) a2
    have hcb := b2.CB' (by decide)
    obtain ⟨d, j2, d1, d2, d3⟩ := bentC_ok hcb.1 hcb.2 b3
    rw [a1]
    simp only [Option.bind_some]
    rw [show (9 : Int) = ((9 : Nat) : Int) from rfl, b1]
    simp only [Option.bind_some]
    rw [d1]
    simp only [Option.bind_some]
    refine ans_l1 (by simp) (fun w hw => ?_) _ 0 rfl
    simp only [List.mem_cons, List.not_mem_nil, or_false] at hw
    rcases hw with rfl | rfl | rfl
    · exact (CB.of hcb).small
    · exact d2.small
    · obtain ⟨g1, g2⟩ := s2 rfl
      exact ⟨by show r.Members.length < _; omega, fun m hm => by have := g2 m hm; unfold Small; omega⟩
end Go.Proofs.YtflmdbdigoeclaaGreat
