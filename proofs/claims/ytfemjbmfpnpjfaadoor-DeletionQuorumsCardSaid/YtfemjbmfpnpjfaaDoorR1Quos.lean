/- The law DeletionQuorums on the machine. -/
import Derived.Test.YtfemjbmfpnpjfaaDoorR1Vald
namespace Go.Proofs.YtfemjbmfpnpjfaaDoor
open Go Go.Ab

theorem shift_one {s k : Nat} (hs : s < 1024) (hk : k ≤ 64) : eqB (andI .i64 (shrI .i64 (s : Int) (k : Int)) 1) 1 = s.testBit k := by
  rw [shrI_nat s k hk, show (1 : Int) = ((1 : Nat) : Int) from rfl, andI_nat (Nat.lt_of_le_of_lt (Nat.shiftRight_le s k) (by omega)) (by decide), shift_and_one]
  cases s.testBit k <;> rfl
theorem ConfOk.smallC {n : Nat} {c : Config} (h : ConfOk n c) (hn : n ≤ 10) : SmallC c := (h.bears hn).small

theorem quos_l2 {c : Config} (hc : ConfOk 8 c) {g y : Nat} (hg : g < 1024) (hy : y < 1024) (hyg : ∀ i, y.testBit i = true → g.testBit i = false) (a7 : Int) (l : List Int) (i : Int) (nn res : Int) : ∀ (n k : Nat) (b : Bool), k + n = c.Members.length →
    ∀ r, (∀ b' : Bool, (b' = true ↔ b = true ∧ ∀ j, k ≤ j → j < c.Members.length → y.testBit j = true → sat (y ||| g) (tr c j) = true) →
      (Option.bind (ref09_Quorum (delC g c) (y : Int)) fun x2 => bif (!(x2 == b')) then some false else law13_DeletionQuorums_l1 nn (g : Int) (addI .i64 a7 1) l i c.Members (delC g c).Members) = some r) →
    law13_DeletionQuorums_l2 nn (g : Int) a7 (y : Int) b ((c.Members.length : Nat) : Int) (k : Int) l i c.Members (delC g c).Members = some r
  | 0, k, b, hk, r, hr => by
    apply law13_DeletionQuorums_l2_le
    rw [ltB_false (by omega)]
    exact hr b ⟨fun h => ⟨h, fun j h1 h2 _ => by omega⟩, fun h => h.1⟩
  | n + 1, k, b, hk, r, hr => by
    have hle := hc.le
    have hkl : k < c.Members.length := by omega
    have hyg' : y ||| g < 1024 := Nat.or_lt_two_pow (n := 10) hy hg
    have htr : tr c k = c.Members[k].Trust := by simp [tr, hkl]
    apply law13_DeletionQuorums_l2_le
    rw [ltB_true (by omega), chk_true (by omega), shift_one hy (by omega), nth_get (by omega) (show c.Members[((k : Nat) : Int).toNat]? = some c.Members[k] by simp), orI_nat (by omega) (by omega), satisfied_ok hyg' _ ((hc.smallC (by decide)).2 _ (List.getElem_mem hkl)), next_nat (by omega), ← htr]
    simp only [cond_true, Option.bind_some]
    have go : ∀ b1 : Bool, (∀ b' : Bool, (b' = true ↔ b1 = true ∧ ∀ j, k + 1 ≤ j → j < c.Members.length → y.testBit j = true → sat (y ||| g) (tr c j) = true) → (b' = true ↔ b = true ∧ ∀ j, k ≤ j → j < c.Members.length → y.testBit j = true → sat (y ||| g) (tr c j) = true)) →
        law13_DeletionQuorums_l2 nn (g : Int) a7 (y : Int) b1 ((c.Members.length : Nat) : Int) ((k + 1 : Nat) : Int) l i c.Members (delC g c).Members = some r :=
      fun b1 hb => quos_l2 hc hg hy hyg a7 l i nn res n (k + 1) b1 (by omega) r fun b' hb' => hr b' (hb b' hb')
    cases hb : y.testBit k with
    | true =>
      cases hs : sat (y ||| g) (tr c k) with
      | true =>
        simp only [cond_true, Bool.not_true, cond_false]
        refine go b fun b' hb' => ?_
        rw [hb']
        refine and_congr_right fun _ => ⟨fun h j h1 h2 h3 => ?_, fun h j h1 h2 h3 => h j (by omega) h2 h3⟩
        by_cases e : j = k
        · rw [e]; exact hs
        · exact h j (by omega) h2 h3
      | false =>
        simp only [cond_true, Bool.not_false]
        refine go false fun b' hb' => ?_
        rw [hb']
        constructor
        · rintro ⟨h, _⟩; cases h
        · rintro ⟨_, h⟩
          have := h k (Nat.le_refl _) hkl hb
          rw [hs] at this; cases this
    | false =>
      simp only [cond_false]
      refine go b fun b' hb' => ?_
      rw [hb']
      refine and_congr_right fun _ => ⟨fun h j h1 h2 h3 => ?_, fun h j h1 h2 h3 => h j (by omega) h2 h3⟩
      by_cases e : j = k
      · rw [e, hb] at h3; cases h3
      · exact h j (by omega) h2 h3

theorem quos_l1 {c : Config} (hc : ConfOk 8 c) {g nn : Nat} (hg : g < 1024) (hnn : nn < 1024) {l : List Int} (haw : law13_awake = some true) : ∀ (m k : Nat) (i : Int), k + m = 12 → TapeOk l i →
    law13_DeletionQuorums_l1 (nn : Int) (g : Int) (k : Int) l i c.Members (delC g c).Members = some true
  | 0, k, i, hk, h => by
    apply law13_DeletionQuorums_l1_le
    rw [ltB_false (by omega)]
    simp only [cond_false, haw, Option.bind_some]
  | m + 1, k, i, hk, h => by
    have hle := hc.le
    obtain ⟨v, j, a1, a2, a3, a4⟩ := N_ok (n := 256) (by decide) (by decide) h
    obtain ⟨w, rfl⟩ := Int.eq_ofNat_of_zero_le a2
    have hx : w &&& nn < 1024 := Nat.lt_of_le_of_lt Nat.and_le_right hnn
    have hsm := hc.smallC (by decide)
    have hsd : SmallC (delC g c) := (delC_conf (s := g) hc (by decide)).smallC (by decide)
    have ih := quos_l1 hc hg hnn haw m (k + 1) j (by omega) a4
    -- the second half
    have half : ∀ y : Nat, y < 1024 → (∀ i, y.testBit i = true → g.testBit i = false) →
        (bif (neB (y : Int) 0) then Option.bind (ref06_Declared ⟨c.Members⟩) fun x3 => law13_DeletionQuorums_l2 (nn : Int) (g : Int) (k : Int) (y : Int) (eqB (andI .i64 (y : Int) x3) (y : Int)) ((List.length c.Members : Nat) : Int) 0 l j c.Members (delC g c).Members
          else law13_DeletionQuorums_l2 (nn : Int) (g : Int) (k : Int) (y : Int) false ((List.length c.Members : Nat) : Int) 0 l j c.Members (delC g c).Members) = some true := by
      intro y hy hyg
      have main : ∀ b : Bool, (b = true ↔ y ≠ 0 ∧ Sub y (decl c)) → law13_DeletionQuorums_l2 (nn : Int) (g : Int) (k : Int) (y : Int) b ((List.length c.Members : Nat) : Int) 0 l j c.Members (delC g c).Members = some true := by
        intro b hb
        refine quos_l2 hc hg hy hyg (k : Int) l j (nn : Int) 0 c.Members.length 0 b (by omega) true fun b' hb' => ?_
        obtain ⟨r, e1, e2⟩ := quorum_ok (c := delC g c) hy hsd
        have hrb : r = b' := by
          have : r = true ↔ b' = true := by
            rw [e2, quorum_del hy hyg, hb', hb]
            constructor
            · rintro ⟨h1, h2, h3⟩; exact ⟨⟨h1, h2⟩, fun q _ _ h4 => h3 q h4⟩
            · rintro ⟨⟨h1, h2⟩, h3⟩
              refine ⟨h1, h2, fun q hq => ?_⟩
              obtain ⟨mm, h4, _⟩ := member_of (h2 q hq)
              exact h3 q (Nat.zero_le _) (List.getElem?_eq_some_iff.1 h4).1 hq
          cases r <;> cases b' <;> simp_all
        rw [e1, hrb]
        simp only [Option.bind_some, beq_self_eq_true, Bool.not_true, cond_false]
        rw [next_nat (by omega)]
        exact ih
      by_cases h0 : y = 0
      · subst h0
        rw [show neB ((0 : Nat) : Int) 0 = false from rfl]
        simp only [cond_false]
        exact main false (by simp)
      · rw [neB_ne (by omega), show (⟨c.Members⟩ : Config) = c from rfl, declared_ok c hsm.1]
        simp only [cond_true, Option.bind_some]
        rw [andI_nat (by omega) (by have := decl_lt c; omega)]
        refine main _ ?_
        rw [eqB_iff, sub_iff]
        constructor
        · intro h; exact ⟨h0, by omega⟩
        · rintro ⟨_, h⟩; omega
    have hq := greatest_lt c hx
    have hz1 : ndiff (greatest c (w &&& nn)) g < 1024 := ndiff_lt (n := 10) hq
    have hy1 : ndiff (w &&& nn) g < 1024 := ndiff_lt (n := 10) hx
    have hyg : ∀ i, (ndiff (w &&& nn) g).testBit i = true → g.testBit i = false := by
      intro i hi
      rw [testBit_ndiff, Bool.and_eq_true] at hi
      simpa using hi.2
    apply law13_DeletionQuorums_l1_le
    rw [ltB_true (by omega), a1]
    simp only [cond_true, Option.bind_some]
    rw [andI_nat (by omega) (by omega), show (⟨c.Members⟩ : Config) = c from rfl, greatest_ok hx hsm]
    simp only [Option.bind_some]
    rw [andNotI_nat (by omega) (by omega), andNotI_nat (by omega) (by omega)]
    have half' := half _ hy1 hyg
    rw [show (⟨c.Members⟩ : Config) = c from rfl] at half'
    by_cases hz : ndiff (greatest c (w &&& nn)) g = 0
    · rw [hz]
      rw [show neB ((0 : Nat) : Int) 0 = false from rfl]
      simp only [cond_false]
      exact half'
    · have hne : greatest c (w &&& nn) ≠ 0 := fun e => hz (by rw [e]; simp [ndiff])
      obtain ⟨q1, q2, q3⟩ := greatest_quorum c hx hne
      obtain ⟨r, e1, e2⟩ := quorum_ok (c := delC g c) hz1 hsd
      have hr : r = true := by
        rw [e2, quorum_del hz1 (fun i hi => by rw [testBit_ndiff, Bool.and_eq_true] at hi; simpa using hi.2)]
        refine ⟨hz, fun i hi => q2 i (by rw [testBit_ndiff, Bool.and_eq_true] at hi; exact hi.1), fun q hq' => ?_⟩
        rw [testBit_ndiff, Bool.and_eq_true] at hq'
        refine sat_mono (fun p hp => ?_) _ (q3 q hq'.1)
        rw [ndiff_union, has_union, hp]; rfl
      rw [neB_ne (by omega), show (⟨(delC g c).Members⟩ : Config) = delC g c from rfl, e1, hr]
      simp only [cond_true, Option.bind_some, Bool.not_true, cond_false]
      exact half'

theorem quos_law (haw : law13_awake = some true) (t : List Int) : law13_DeletionQuorums t = some true := by
  obtain ⟨l, a1, a2⟩ := New_ok t
  obtain ⟨c, j, b1, b2, b3⟩ := Config_ok (n := 8) (by decide) (by decide) a2
  obtain ⟨v, j1, c1, c2, c3, c4⟩ := N_ok (n := 256) (by decide) (by decide) b3
  obtain ⟨w, rfl⟩ := Int.eq_ofNat_of_zero_le c2
  have hle := b2.le
  have hpow : 2 ^ c.Members.length ≤ 256 := Nat.pow_le_pow_right (n := 2) (by decide) hle
  have hp0 := Nat.two_pow_pos c.Members.length
  have hnn : 2 ^ c.Members.length - 1 < 1024 := by omega
  have hg : w &&& (2 ^ c.Members.length - 1) < 1024 := Nat.lt_of_le_of_lt Nat.and_le_right hnn
  have hsub : subI .i64 (shlI .i64 1 ((List.length c.Members : Nat) : Int)) 1 = ((2 ^ c.Members.length - 1 : Nat) : Int) := by
    rw [shl1 (by omega) (by omega), Int.toNat_natCast, subI64 (by omega) (by omega)]; omega
  have hd := delC_conf (s := w &&& (2 ^ c.Members.length - 1)) b2 (by decide)
  obtain ⟨e, e1, e2⟩ := validC_ok (delC (w &&& (2 ^ c.Members.length - 1)) c) (hd.smallC (by decide))
  have he : e = 0 := e2.2 (hd.valid (by decide))
  have hlen : (delC (w &&& (2 ^ c.Members.length - 1)) c).Members.length = c.Members.length := delL_length _ _ _
  apply law13_DeletionQuorums_le
  rw [a1]
  simp only [Option.bind_some]
  rw [show (8 : Int) = ((8 : Nat) : Int) from rfl, b1]
  simp only [Option.bind_some]
  rw [chk_true (by omega), c1]
  simp only [Option.bind_some, hsub]
  rw [andI_nat (by omega) (by omega), delete_ok hg c (b2.bears (by decide))]
  simp only [Option.bind_some]
  rw [e1, he]
  simp only [Option.bind_some, neB_self, cond_false]
  rw [declared_ok _ (hd.smallC (by decide)).1, declared_ok c (b2.smallC (by decide)).1]
  simp only [Option.bind_some]
  rw [andNotI_nat (by have := decl_lt c; omega) (by omega), ← decl_del, neB_self, hlen, neB_self]
  simp only [cond_false]
  exact quos_l1 b2 hg hnn haw 12 0 _ rfl c4
end Go.Proofs.YtfemjbmfpnpjfaaDoor
