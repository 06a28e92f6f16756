/- QuorumsMinimal: the law, on the machine. -/
import Derived.Test.YtflmdbdigoeclaaP10Pquor
import Derived.Test.YtflmdbdigoeclaaP10Awake
namespace Go.Proofs.Ytflmdbdigoeclaa
open Go Go.Ab
theorem ord_get {l : List Nat} (h : l.Pairwise nlt) {i k : Nat} (hi : i < l.length) (hk : k < l.length) (hne : i ≠ k) : l[i] ≠ l[k] := by
  intro e
  have := List.pairwise_iff_getElem.1 h
  rcases Nat.lt_or_gt_of_ne hne with hlt | hlt
  · have := this i k hi hk hlt; rw [e] at this; exact nlt_irrefl _ this
  · have := this k i hk hi hlt; rw [e] at this; exact nlt_irrefl _ this
theorem get_of_drop {l : List Nat} {i y : Nat} {suf : List Nat} (h : l.drop i = y :: suf) : ∃ hi : i < l.length, l[i] = y := by
  have hlt := lt_drop h
  refine ⟨hlt, ?_⟩
  rw [List.drop_eq_getElem_cons hlt] at h
  exact (List.cons.inj h).1
section
variable {c : Config} (hc : SmallC c) (hn : c.Members.length ≤ 10) {out : List Nat} (ho : LeastOf (pick (quoB c) (2 ^ c.Members.length)) out) (hlen : out.length ≤ 1024) {tl : List Int}
include hc hn ho hlen
theorem min_l4 (x : Nat) (hx : x < 1024) (i : Int) (ti : Int) (K : law10_QuorumsMinimal_l3 (out.map Int.ofNat) (addI .i64 i 1) tl ti c.Members = some true) : ∀ (suf pre : List Nat), out = pre ++ suf → ∀ b, b = (pre.any fun y => subB y x) →
    law10_QuorumsMinimal_l4 (out.map Int.ofNat) i (x : Int) b (out.map Int.ofNat) ((out.length : Nat) : Int) ((pre.length : Nat) : Int) tl ti c.Members = some true
  | [], pre, e, b, hb => by
    have hd := drop_pre e
    rw [List.append_nil] at e
    rw [← e, some_least hn ho hx] at hb
    apply law10_QuorumsMinimal_l4_le
    rw [ltB_end hd, show Config.mk c.Members = c from rfl, greatest_ok hx hc]
    simp only [cond_false, Option.bind_some]
    rw [neB_nat, hb]
    simp only [beq_self_eq_true, Bool.not_true, cond_false]
    exact K
  | y :: suf, pre, e, b, hb => by
    have hd := drop_pre e
    have hlt := lt_drop hd
    have hy10 : y < 1024 := by
      have := (mem_pick.1 ((ho.2 y).1 (by rw [e]; simp)).1).1
      have := pow10 hn
      omega
    have ih := min_l4 x hx i ti K suf (pre ++ [y]) (by rw [e]; simp)
    rw [show (pre ++ [y]).length = pre.length + 1 by simp] at ih
    have hm : ((pre ++ [y]).any fun y => subB y x) = ((pre.any fun y => subB y x) || subB y x) := by simp
    apply law10_QuorumsMinimal_l4_le
    rw [ltB_drop hd]
    simp only [cond_true, nth_drop (map_drop_cons hd)]
    cases b with
    | true =>
      simp only [cond_true]
      rw [next_nat (by omega)]
      exact ih _ (by rw [hm, ← hb]; rfl)
    | false =>
      simp only [cond_false]
      rw [andI_nat (by omega) (by omega), next_nat (by omega)]
      have heq : eqB (((y &&& x : Nat) : Int)) (y : Int) = subB y x := by
        rw [← and_eq_sub]
        by_cases h : y &&& x = y
        · rw [h, eqB_self]; simp
        · rw [eqB_ne (by omega)]; simp [h]
      rw [heq]
      exact ih _ (by rw [hm, ← hb]; rfl)
theorem min_l3 : ∀ (n i : Nat) (ti : Int), i + n = 30 → TapeOk tl ti → law10_QuorumsMinimal_l3 (out.map Int.ofNat) (i : Int) tl ti c.Members = some true
  | 0, i, ti, h, ht => by
    have : i = 30 := by omega
    subst this
    apply law10_QuorumsMinimal_l3_le
    rw [ltB_false (by omega), awake_true]; rfl
  | n + 1, i, ti, h, ht => by
    have hp := pow10 hn
    have hpos := Nat.two_pow_pos c.Members.length
    obtain ⟨x0, j, g1, g2, g3, g4⟩ := N_ok (n := ((2 ^ c.Members.length : Nat) : Int)) (by omega) (by omega) ht
    obtain ⟨x, rfl⟩ := Int.eq_ofNat_of_zero_le g2
    have ih := min_l3 n (i + 1) j (by omega) g4
    rw [← next_nat (show i < 4611686018427387904 by omega)] at ih
    apply law10_QuorumsMinimal_l3_le
    rw [ltB_true (by omega), chk_true (by omega), shl1 (by omega) (by omega), Int.toNat_natCast, g1]
    simp only [cond_true, Option.bind_some, List.length_map]
    exact min_l4 hc hn ho hlen x (by omega) (i : Int) j ih out [] rfl false rfl
theorem min_l2 {x i : Nat} (hi : i < out.length) (hx : out[i] = x) {ti : Int} (K : law10_QuorumsMinimal_l1 (out.map Int.ofNat) (out.map Int.ofNat) ((out.length : Nat) : Int) (addI .i64 (i : Int) 1) tl ti c.Members = some true) : ∀ (suf : List Nat) (k : Nat), out.drop k = suf →
    law10_QuorumsMinimal_l2 (out.map Int.ofNat) (i : Int) (x : Int) (out.map Int.ofNat) ((out.length : Nat) : Int) (i : Int) (out.map Int.ofNat) ((out.length : Nat) : Int) (k : Int) tl ti c.Members = some true
  | [], k, h => by
    have hxm : x ∈ out := by rw [← hx]; exact List.getElem_mem hi
    have hm := mem_pick.1 ((ho.2 x).1 hxm).1
    have hp := pow10 hn
    apply law10_QuorumsMinimal_l2_le
    rw [ltB_end h, show Config.mk c.Members = c from rfl, rquorum_ok (by omega) hc, hm.2]
    exact K
  | y :: suf, k, h => by
    have hlt := lt_drop h
    obtain ⟨hk, hky⟩ := get_of_drop h
    have hxm : x ∈ out := by rw [← hx]; exact List.getElem_mem hi
    have hym : y ∈ out := by rw [← hky]; exact List.getElem_mem hk
    have hm := mem_pick.1 ((ho.2 x).1 hxm).1
    have hm' := mem_pick.1 ((ho.2 y).1 hym).1
    have hp := pow10 hn
    have ih := min_l2 hi hx K suf (k + 1) (drop_next h)
    apply law10_QuorumsMinimal_l2_le
    rw [ltB_drop h]
    simp only [cond_true, nth_drop (map_drop_cons h)]
    rw [next_nat (by omega)]
    by_cases hne : i = k
    · rw [show neB (i : Int) (k : Int) = false by rw [hne, neB_self]]; exact ih
    · rw [neB_ne (by omega), andI_nat (by omega) (by omega)]
      have hno : x &&& y ≠ x := fun e => by
        have h1 : Sub x y := sub_iff.2 e
        have h2 := ((ho.2 y).1 hym).2 x ((ho.2 x).1 hxm).1 h1
        exact ord_get ho.1 hi hk hne (by rw [hx, hky, h2])
      rw [eqB_ne (by omega)]
      exact ih
theorem min_l1 : ∀ (suf : List Nat) (i : Nat) (ti : Int), out.drop i = suf → TapeOk tl ti →
    law10_QuorumsMinimal_l1 (out.map Int.ofNat) (out.map Int.ofNat) ((out.length : Nat) : Int) (i : Int) tl ti c.Members = some true
  | [], i, ti, h, ht => by
    apply law10_QuorumsMinimal_l1_le
    rw [ltB_end h]
    exact min_l3 hc hn ho hlen 30 0 ti rfl ht
  | x :: suf, i, ti, h, ht => by
    have hlt := lt_drop h
    obtain ⟨hi, hix⟩ := get_of_drop h
    have ih := min_l1 suf (i + 1) ti (drop_next h) ht
    rw [← next_nat (show i < 4611686018427387904 by omega)] at ih
    apply law10_QuorumsMinimal_l1_le
    rw [ltB_drop h]
    simp only [cond_true, nth_drop (map_drop_cons h), List.length_map]
    exact min_l2 hc hn ho hlen hi hix ih out 0 rfl
end
theorem minimal_law (t : List Int) : law10_QuorumsMinimal t = some true := by
  apply law10_QuorumsMinimal_le
  obtain ⟨l, e1, t1⟩ := New_ok t
  obtain ⟨c, j1, e2, c1, t2⟩ := Config_ok (n := 9) (by decide) (by decide) t1
  have hle := c1.le
  have hc := c1.smallC (by decide)
  have he := cerr_zero.2 (c1.valid (by decide))
  obtain ⟨out, m1, m2⟩ := pminimal_ok hc he
  have hp := pow10 (show c.Members.length ≤ 10 by omega)
  have hlen := ord_len m2.1 fun s hs => by have := (mem_pick.1 ((m2.2 s).1 hs).1).1; omega
  rw [e1]
  simp only [Option.bind_some]
  rw [show (9 : Int) = ((9 : Nat) : Int) from rfl, e2]
  simp only [Option.bind_some]
  rw [m1]
  simp only [Option.bind_some, neB_self, cond_false, List.length_map]
  exact min_l1 hc (by omega) m2 hlen out 0 j1 rfl t2
end Go.Proofs.Ytflmdbdigoeclaa
