/- QuorumsParts: the law, on the machine. -/
import Derived.Test.YtflmdbdigoeclaaP10Parts
import Derived.Test.YtflmdbdigoeclaaP10Awake
namespace Go.Proofs.Ytflmdbdigoeclaa
open Go Go.Ab
theorem part_l3 {tl : List Int} {ti : Int} {ms : List Member} {p l : List Nat} (hp : p.length ≤ 1000) (hlt : ∀ y ∈ p, y < 1024) {x : Nat} (hx : x < 1024) (hany : (p.any fun y => subB x y) = true) {all len i : Int}
    (K : law10_QuorumsParts_l2 (p.map Int.ofNat) all (l.map Int.ofNat) len (addI .i64 i 1) tl ti ms = some true) : ∀ (suf pre : List Nat), p = pre ++ suf → ∀ b, b = (pre.any fun y => subB x y) →
    law10_QuorumsParts_l3 (p.map Int.ofNat) all (x : Int) b (l.map Int.ofNat) len i (p.map Int.ofNat) ((p.length : Nat) : Int) ((pre.length : Nat) : Int) tl ti ms = some true
  | [], pre, e, b, hb => by
    have hd := drop_pre e
    rw [List.append_nil] at e
    rw [← e, hany] at hb
    subst hb
    apply law10_QuorumsParts_l3_le
    rw [ltB_end hd]
    exact K
  | y :: suf, pre, e, b, hb => by
    have hd := drop_pre e
    have hl := lt_drop hd
    have hy := hlt y (by rw [e]; simp)
    have ih := part_l3 hp hlt hx hany K suf (pre ++ [y]) (by rw [e]; simp)
    rw [show (pre ++ [y]).length = pre.length + 1 by simp] at ih
    have hm : ((pre ++ [y]).any fun y => subB x y) = ((pre.any fun y => subB x y) || subB x y) := by simp
    apply law10_QuorumsParts_l3_le
    rw [ltB_drop hd]
    simp only [cond_true, nth_drop (map_drop_cons hd)]
    cases b with
    | true =>
      simp only [cond_true]
      rw [next_nat (by omega)]
      exact ih _ (by rw [hm, ← hb]; rfl)
    | false =>
      simp only [cond_false]
      rw [andI_nat (by omega) (by omega), next_nat (by omega)]
      have heq : eqB (((x &&& y : Nat) : Int)) (x : Int) = subB x y := by
        rw [← and_eq_sub]
        by_cases h : x &&& y = x
        · rw [h, eqB_self]; simp
        · rw [eqB_ne (by omega)]; simp [h]
      rw [heq]
      exact ih _ (by rw [hm, ← hb]; rfl)
theorem part_l2 {c : Config} (hc : SmallC c) {tl : List Int} {ti : Int} {p l : List Nat} (hp : p.length ≤ 1000) (hlt : ∀ y ∈ p, y < 1024) (hl : l.length ≤ 1024) (hx : ∀ x ∈ l, x < 1024 ∧ (p.any fun y => subB x y) = true) : ∀ (suf : List Nat) (i : Nat), l.drop i = suf →
    law10_QuorumsParts_l2 (p.map Int.ofNat) ((decl c : Nat) : Int) (l.map Int.ofNat) ((l.length : Nat) : Int) (i : Int) tl ti c.Members = some true
  | [], i, h => by
    apply law10_QuorumsParts_l2_le
    rw [ltB_end h, show Config.mk c.Members = c from rfl, declared_ok c hc.1]
    simp only [cond_false, Option.bind_some, eqB_self, cond_true, awake_true]
  | x :: suf, i, h => by
    have hlt' := lt_drop h
    obtain ⟨h1, h2⟩ := hx x (List.mem_of_mem_drop (by rw [h]; simp))
    have ih := part_l2 hc hp hlt hl hx (tl := tl) (ti := ti) suf (i + 1) (drop_next h)
    rw [← next_nat (show i < 4611686018427387904 by omega)] at ih
    apply law10_QuorumsParts_l2_le
    rw [ltB_drop h]
    simp only [cond_true, nth_drop (map_drop_cons h), List.length_map]
    exact part_l3 hp hlt h1 h2 ih p [] rfl false rfl
theorem part_l1 {c : Config} {tl : List Int} {ti : Int} {p l : List Nat} (hp : p.length ≤ 1000) (hlt : ∀ y ∈ p, y < 1024)
    (K : law10_QuorumsParts_l2 (p.map Int.ofNat) ((decl c : Nat) : Int) (l.map Int.ofNat) ((l.length : Nat) : Int) 0 tl ti c.Members = some true) : ∀ (suf : List Nat) (i a : Nat), p.drop i = suf → a < 1024 → cum a suf = some (decl c) →
    law10_QuorumsParts_l1 (p.map Int.ofNat) (l.map Int.ofNat) (a : Int) (p.map Int.ofNat) ((p.length : Nat) : Int) (i : Int) tl ti c.Members = some true
  | [], i, a, h, ha, hcum => by
    simp only [cum, Option.some.injEq] at hcum
    apply law10_QuorumsParts_l1_le
    rw [ltB_end h, hcum, List.length_map]
    exact K
  | x :: suf, i, a, h, ha, hcum => by
    have hl := lt_drop h
    have hx := hlt x (List.mem_of_mem_drop (by rw [h]; simp))
    simp only [cum] at hcum
    by_cases hbad : x = 0 ∨ a &&& x ≠ 0
    · rw [if_pos hbad] at hcum; cases hcum
    · rw [if_neg hbad] at hcum
      have h0 : x ≠ 0 := fun e => hbad (.inl e)
      have h1 : a &&& x = 0 := by
        by_cases h : a &&& x = 0
        · exact h
        · exact absurd (.inr h) hbad
      have ih := part_l1 hp hlt K suf (i + 1) (a ||| x) (drop_next h) (or_lt ha hx) hcum
      apply law10_QuorumsParts_l1_le
      rw [ltB_drop h]
      simp only [cond_true, nth_drop (map_drop_cons h)]
      rw [eqB_ne (by omega), andI_nat (by omega) (by omega), h1, orI_nat (by omega) (by omega), next_nat (by omega)]
      exact ih
theorem parts_law (t : List Int) : law10_QuorumsParts t = some true := by
  apply law10_QuorumsParts_le
  obtain ⟨l, e1, t1⟩ := New_ok t
  obtain ⟨c, j1, e2, c1, t2⟩ := Config_ok (n := 9) (by decide) (by decide) t1
  have hle := c1.le
  have hc := c1.smallC (by decide)
  have he := cerr_zero.2 (c1.valid (by decide))
  have hn10 : c.Members.length ≤ 10 := by omega
  have hp := pow10 hn10
  obtain ⟨R, hR⟩ := reaches hc
  obtain ⟨p, p1, p2⟩ := pparts_ok hR hc he
  obtain ⟨out, m1, m2⟩ := pminimal_ok hc he
  have hlen := ord_len m2.1 fun s hs => by have := (mem_pick.1 ((m2.2 s).1 hs).1).1; omega
  have hpl := p2.len
  rw [e1]
  simp only [Option.bind_some]
  rw [show (9 : Int) = ((9 : Nat) : Int) from rfl, e2]
  simp only [Option.bind_some]
  rw [p1]
  simp only [Option.bind_some]
  rw [m1]
  simp only [Option.bind_some, neB_self, cond_false, List.length_map]
  refine part_l1 (by omega) p2.lt ?_ p 0 0 rfl (by decide) p2.cum
  refine part_l2 hc (by omega) p2.lt hlen (fun x hx => ?_) out 0 rfl
  have hm := (m2.2 x).1 hx
  obtain ⟨hxn, hxq⟩ := mem_pick.1 hm.1
  have hx10 : x < 1024 := by omega
  have hQ := (quoB_iff hx10).1 hxq
  refine ⟨hx10, ?_⟩
  have hmin : ∀ y, Quorum c y → Sub y x → y = x := fun y hy hyx => by
    refine hm.2 y (mem_pick.2 ⟨Nat.lt_of_le_of_lt (sub_le hyx) hxn, (quoB_iff (quo_lt hy)).2 hy⟩) hyx
  obtain ⟨i, hi⟩ := bne_zero hQ.1
  obtain ⟨y, hy, hy2⟩ := p2.cls i (hQ.2.1 i hi)
  rw [List.any_eq_true]
  exact ⟨y, hy, subB_iff.2 fun j hj => (hy2 j).2 ⟨quo_one hR hQ hmin hi hj, quo_one hR hQ hmin hj hi⟩⟩
end Go.Proofs.Ytflmdbdigoeclaa
