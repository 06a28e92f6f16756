/- The strongly connected parts of a configuration, as the program finds them. -/
import Derived.Test.YtflmdbdigoeclaaGreatZ10Pquor
namespace Go.Proofs.YtflmdbdigoeclaaGreat
open Go Go.Ab Go.Sort
def closedR (c : Config) (s : Nat) : Prop := ∀ j, s.testBit j = true → Sub (uses (tr c j) &&& decl c) s
def stepOr (c : Config) (l : List Nat) (s : Nat) : Nat := l.foldl (fun a j => a ||| (uses (tr c j) &&& decl c)) s
theorem step_bit (c : Config) : ∀ (l : List Nat) (a i : Nat), (stepOr c l a).testBit i = (a.testBit i || l.any fun j => (uses (tr c j) &&& decl c).testBit i)
  | [], a, i => by simp [stepOr]
  | y :: r, a, i => by
    have := step_bit c r (a ||| (uses (tr c y) &&& decl c)) i
    simp only [stepOr, List.foldl_cons] at this ⊢
    rw [this, Nat.testBit_or, List.any_cons, Bool.or_assoc]
theorem step_sub (c : Config) (l : List Nat) (s : Nat) : Sub s (stepOr c l s) := fun i hi => by rw [step_bit, hi]; rfl
theorem step_decl {c : Config} {l : List Nat} {s : Nat} (h : Sub s (decl c)) : Sub (stepOr c l s) (decl c) := fun i hi => by
  rw [step_bit, Bool.or_eq_true, List.any_eq_true] at hi
  rcases hi with hi | ⟨j, _, hj⟩
  · exact h i hi
  · rw [Nat.testBit_and, Bool.and_eq_true] at hj; exact hj.2
theorem reach_l2 {c : Config} (hc : SmallC c) {s : Nat} (hd : Sub s (decl c)) {l : List Nat} (hl : l.length ≤ 10) (hm : ∀ i ∈ l, s.testBit i = true) {r : Int}
    (K : (bif (eqB ((stepOr c l s : Nat) : Int) (s : Int)) then some (s : Int) else quorums_reached_l1 ((decl c : Nat) : Int) ((stepOr c l s : Nat) : Int) c.Members) = some r) : ∀ (suf pre : List Nat), l = pre ++ suf →
    quorums_reached_l2 ((decl c : Nat) : Int) (s : Int) ((stepOr c pre s : Nat) : Int) (l.map Int.ofNat) ((l.length : Nat) : Int) ((pre.length : Nat) : Int) c.Members = some r
  | [], pre, e => by
    have hd' := drop_pre e
    rw [List.append_nil] at e
    apply quorums_reached_l2_le
    rw [ltB_end hd', ← e]
    exact K
  | y :: suf, pre, e => by
    have hd' := drop_pre e
    have hlt := lt_drop hd'
    have hdl := decl_lt c
    obtain ⟨m, h1, h2, _⟩ := member_of (hd y (hm y (by rw [e]; simp)))
    have hul := uses_lt (tr c y)
    have hst := (step_decl (l := pre) hd).lt hdl
    have hal := and_lt' (b := decl c) hul
    have ih := reach_l2 hc hd hl hm K suf (pre ++ [y]) (by rw [e]; simp)
    rw [show (pre ++ [y]).length = pre.length + 1 by simp, show stepOr c (pre ++ [y]) s = stepOr c pre s ||| (uses (tr c y) &&& decl c) by simp [stepOr]] at ih
    apply quorums_reached_l2_le
    rw [ltB_drop hd']
    simp only [cond_true, nth_drop (map_drop_cons hd')]
    rw [nth_get (y := m) (by omega) (by rw [Int.toNat_natCast]; exact h1), puses_ok m.Trust (hc.2 m (List.mem_of_getElem? h1)), ← h2]
    simp only [Option.bind_some]
    rw [andI_nat (by omega) (by omega), orI_nat (by omega) (by omega), next_nat (by omega)]
    exact ih
theorem reach_l1 {c : Config} (hc : SmallC c) : ∀ (n s : Nat), 1024 - s ≤ n → Sub s (decl c) → ∃ r : Nat, quorums_reached_l1 ((decl c : Nat) : Int) (s : Int) c.Members = some (r : Int) ∧ Sub s r ∧ Sub r (decl c) ∧ closedR c r ∧ ∀ t, Sub s t → closedR c t → Sub r t
  | 0, s, hn, hd => by have := hd.lt (decl_lt c); omega
  | n + 1, s, hn, hd => by
    have hs := hd.lt (decl_lt c)
    have hmem : ∀ i ∈ nodes s, s.testBit i = true := fun i hi => (mem_nodes.1 hi).1
    have run : ∀ r : Int, (bif (eqB ((stepOr c (nodes s) s : Nat) : Int) (s : Int)) then some (s : Int) else quorums_reached_l1 ((decl c : Nat) : Int) ((stepOr c (nodes s) s : Nat) : Int) c.Members) = some r → quorums_reached_l1 ((decl c : Nat) : Int) (s : Int) c.Members = some r := by
      intro r K
      apply quorums_reached_l1_le
      rw [pnodes_ok hs]
      simp only [Option.bind_some, List.length_map]
      exact reach_l2 hc hd (nodes_len s) hmem K (nodes s) [] rfl
    by_cases he : stepOr c (nodes s) s = s
    · refine ⟨s, run s (by rw [he, eqB_self]; rfl), Sub.refl s, hd, fun j hj i hi => ?_, fun t h _ => h⟩
      rw [← he, step_bit, Bool.or_eq_true, List.any_eq_true]
      exact .inr ⟨j, mem_nodes.2 ⟨hj, bit_lt_of hs hj⟩, hi⟩
    · have hsub := step_sub c (nodes s) s
      have := sub_le hsub
      obtain ⟨r, h1, h2, h3, h4, h5⟩ := reach_l1 hc n (stepOr c (nodes s) s) (by omega) (step_decl hd)
      refine ⟨r, run r (by rw [eqB_ne (by omega)]; exact h1), hsub.trans h2, h3, h4, fun t ht hcl => h5 t (fun i hi => ?_) hcl⟩
      rw [step_bit, Bool.or_eq_true, List.any_eq_true] at hi
      rcases hi with hi | ⟨j, hj, hji⟩
      · exact ht i hi
      · exact hcl j (ht j (hmem j hj)) i hji
def IsReach (c : Config) (k r : Nat) : Prop := r.testBit k = true ∧ Sub r (decl c) ∧ closedR c r ∧ ∀ t, t.testBit k = true → closedR c t → Sub r t
theorem reached_ok {c : Config} (hc : SmallC c) {k : Nat} (hk : (decl c).testBit k = true) : ∃ r : Nat, quorums_reached c (k : Int) = some (r : Int) ∧ IsReach c k r := by
  have hk10 := bit_lt_of (decl_lt c) hk
  obtain ⟨r, h1, h2, h3, h4, h5⟩ := reach_l1 hc _ (2 ^ k) (Nat.le_refl _) (Sub.pow hk)
  refine ⟨r, ?_, h2 k (by rw [testBit_pow]; simp), h3, h4, fun t ht hcl => h5 t (Sub.pow ht) hcl⟩
  apply quorums_reached_le
  rw [pdeclared_ok c hc.1]
  simp only [Option.bind_some]
  rw [chk_true (by omega), shl1 (by omega) (by omega), Int.toNat_natCast]
  exact h1
def Reaches (c : Config) (R : Nat → Nat) : Prop := (∀ k, (decl c).testBit k = true → quorums_reached c (k : Int) = some ((R k : Nat) : Int) ∧ IsReach c k (R k)) ∧ ∀ k, (decl c).testBit k = false → R k = 0
theorem reaches {c : Config} (hc : SmallC c) : ∃ R, Reaches c R := by
  have : ∀ k : Nat, ∃ r : Nat, ((decl c).testBit k = true → quorums_reached c (k : Int) = some (r : Int) ∧ IsReach c k r) ∧ ((decl c).testBit k = false → r = 0) := by
    intro k
    cases hk : (decl c).testBit k with
    | true =>
      obtain ⟨r, h1, h2⟩ := reached_ok hc hk
      exact ⟨r, fun _ => ⟨h1, h2⟩, fun h => by cases h⟩
    | false => exact ⟨0, (fun h => by cases h), fun _ => rfl⟩
  obtain ⟨R, hR⟩ := Classical.axiomOfChoice this
  exact ⟨R, fun k => (hR k).1, fun k => (hR k).2⟩
def same' (R : Nat → Nat) (i j : Nat) : Prop := (R i).testBit j = true ∧ (R j).testBit i = true
section
variable {c : Config} {R : Nat → Nat}
theorem Reaches.lt (h : Reaches c R) (k : Nat) : R k < 1024 := by
  cases hk : (decl c).testBit k with
  | true => exact (h.1 k hk).2.2.1.lt (decl_lt c)
  | false => rw [h.2 k hk]; decide
theorem Reaches.dec (h : Reaches c R) {k i : Nat} (hi : (R k).testBit i = true) : (decl c).testBit k = true ∧ (decl c).testBit i = true := by
  cases hk : (decl c).testBit k with
  | true => exact ⟨rfl, (h.1 k hk).2.2.1 i hi⟩
  | false => rw [h.2 k hk] at hi; simp at hi
theorem Reaches.trans (h : Reaches c R) {i j : Nat} (hij : (R i).testBit j = true) : Sub (R j) (R i) := by
  obtain ⟨h1, h2⟩ := h.dec hij
  exact (h.1 j h2).2.2.2.2 (R i) hij (h.1 i h1).2.2.2.1
def clsF (R : Nat → Nat) (k : Nat) (l : List Nat) (a : Nat) : Nat := l.foldl (fun a y => if (R y).testBit k = true then a ||| 2 ^ y else a) a
theorem cls_bit (k : Nat) : ∀ (l : List Nat) (a i : Nat), (clsF R k l a).testBit i = (a.testBit i || (decide (i ∈ l) && (R i).testBit k))
  | [], a, i => by simp [clsF]
  | y :: r, a, i => by
    have ih := cls_bit k r (if (R y).testBit k = true then a ||| 2 ^ y else a) i
    simp only [clsF, List.foldl_cons] at ih ⊢
    rw [ih]
    by_cases hy : y = i
    · subst hy
      cases hb : (R y).testBit k <;> simp [Nat.testBit_or]
    · have hy' : ¬ i = y := fun e => hy e.symm
      cases hb : (R y).testBit k <;> simp [Nat.testBit_or, hy, hy']
def cls (R : Nat → Nat) (k : Nat) : Nat := clsF R k (nodes (R k)) 0
theorem mem_cls (h : Reaches c R) {k i : Nat} : (cls R k).testBit i = true ↔ same' R k i := by
  unfold cls same'
  rw [cls_bit, Nat.zero_testBit, Bool.false_or, Bool.and_eq_true, decide_eq_true_eq, mem_nodes]
  constructor
  · rintro ⟨⟨h1, _⟩, h2⟩; exact ⟨h1, h2⟩
  · rintro ⟨h1, h2⟩; exact ⟨⟨h1, bit_lt_of (h.lt k) h1⟩, h2⟩
theorem cls_lt (h : Reaches c R) (k : Nat) : cls R k < 1024 := lt1024 fun _i hi => bit_lt_of (h.lt k) ((mem_cls h).1 hi).1
theorem clsF_lt (k : Nat) : ∀ (l : List Nat) (a : Nat), (∀ i ∈ l, i < 10) → a < 1024 → clsF R k l a < 1024
  | [], a, _, ha => ha
  | y :: r, a, hl, ha => by
    have : (if (R y).testBit k = true then a ||| 2 ^ y else a) < 1024 := by
      split
      · exact or_lt ha (pow_lt' (hl y (by simp)))
      · exact ha
    have := clsF_lt k r _ (fun i hi => hl i (by simp [hi])) this
    simpa [clsF] using this
def RL (R : Nat → Nat) (n : Nat) : List Int := (List.range n).map fun i => ((R i : Nat) : Int)
theorem RL_get {n i : Nat} (h : i < n) : (RL R n)[i]? = some ((R i : Nat) : Int) := by simp [RL, h]
theorem parts_l3 (h : Reaches c R) {n : Nat} (hdn : ∀ i, (decl c).testBit i = true → i < n) (hn : n ≤ 10) {k : Nat} (hk : k < n) {out : List Int} {done : Nat} (hdone : done < 1024) (hol : out.length ≤ 1000) {r : List Int × Int}
    (K : quorums_Parts_l2 (RL R n) (out ++ [((cls R k : Nat) : Int)]) ((done ||| cls R k : Nat) : Int) (n : Int) ((k + 1 : Nat) : Int) c.Members = some r) : ∀ (suf pre : List Nat), nodes (R k) = pre ++ suf →
    quorums_Parts_l3 (RL R n) out (done : Int) (k : Int) ((clsF R k pre 0 : Nat) : Int) (n : Int) (k : Int) ((nodes (R k)).map Int.ofNat) (((nodes (R k)).length : Nat) : Int) ((pre.length : Nat) : Int) c.Members = some r
  | [], pre, e => by
    have hd := drop_pre e
    rw [List.append_nil] at e
    have hcl := cls_lt h k
    have hcs : clsF R k pre 0 = cls R k := by rw [← e]; rfl
    apply quorums_Parts_l3_le
    rw [ltB_end hd, capOk_true (by simp [maxElems]; omega), hcs]
    simp only [cond_false]
    rw [orI_nat (by omega) (by omega), next_nat (by omega)]
    exact K
  | y :: suf, pre, e => by
    have hd := drop_pre e
    have hlt := lt_drop hd
    have hlen := nodes_len (R k)
    have hy := mem_nodes.1 (show y ∈ nodes (R k) by rw [e]; simp)
    have hyn := hdn y (h.dec hy.1).2
    have hpre : ∀ i ∈ pre, i < 10 := fun i hi => (mem_nodes.1 (show i ∈ nodes (R k) by rw [e]; simp [hi])).2
    have hcf := clsF_lt (R := R) k pre 0 hpre (by decide)
    have hpy := pow_lt' hy.2
    have ih := parts_l3 h hdn hn hk hdone hol K suf (pre ++ [y]) (by rw [e]; simp)
    rw [show (pre ++ [y]).length = pre.length + 1 by simp, show clsF R k (pre ++ [y]) 0 = (if (R y).testBit k = true then clsF R k pre 0 ||| 2 ^ y else clsF R k pre 0) by simp [clsF]] at ih
    apply quorums_Parts_l3_le
    rw [ltB_drop hd]
    simp only [cond_true, nth_drop (map_drop_cons hd), Int.toNat_natCast]
    rw [nth_get (y := ((R y : Nat) : Int)) (by omega) (by rw [Int.toNat_natCast]; exact RL_get hyn), nthN_get (RL_get hyn), nodeset_Has_ok (h.lt y), has_nat (show k < 10 by omega)]
    simp only [Option.bind_some]
    cases hb : (R y).testBit k with
    | true =>
      rw [if_pos hb] at ih
      simp only [cond_true]
      rw [chk_true (by omega), shl1 (by omega) (by omega), Int.toNat_natCast, orI_nat (by omega) (by omega), next_nat (by omega)]
      exact ih
    | false =>
      rw [if_neg (by simp [hb])] at ih
      simp only [cond_false]
      rw [next_nat (by omega)]
      exact ih
theorem parts_l1 (h : Reaches c R) {n : Nat} (hlen : n = c.Members.length) (hdn : ∀ i, (decl c).testBit i = true → i < n) {r : List Int × Int}
    (K : quorums_Parts_l2 (RL R n) [] 0 (n : Int) 0 c.Members = some r) : ∀ (suf pre : List Nat) (A : List Int), nodes (decl c) = pre ++ suf → A.length = n → (∀ i, i < n → A[i]? = some (if i ∈ pre then ((R i : Nat) : Int) else 0)) →
    quorums_Parts_l1 A ((nodes (decl c)).map Int.ofNat) (((nodes (decl c)).length : Nat) : Int) ((pre.length : Nat) : Int) c.Members = some r
  | [], pre, A, e, hA, hp => by
    have hd := drop_pre e
    rw [List.append_nil] at e
    have hAe : A = RL R n := by
      apply List.ext_getElem?
      intro i
      by_cases hi : i < n
      · rw [hp i hi, RL_get hi]
        split
        · rfl
        · rename_i hni
          have : (decl c).testBit i = false := by
            cases hb : (decl c).testBit i with
            | false => rfl
            | true => exact absurd (by rw [← e]; exact mem_nodes.2 ⟨hb, bit_lt_of (decl_lt c) hb⟩) hni
          rw [h.2 i this]; rfl
      · rw [List.getElem?_eq_none (by omega), List.getElem?_eq_none (by simp [RL]; omega)]
    apply quorums_Parts_l1_le
    rw [ltB_end hd, hA, hAe]
    exact K
  | y :: suf, pre, A, e, hA, hp => by
    have hd := drop_pre e
    have hlt := lt_drop hd
    have hnl := nodes_len (decl c)
    have hy := (mem_nodes.1 (show y ∈ nodes (decl c) by rw [e]; simp)).1
    have hyn := hdn y hy
    have hyA : y < A.length := by omega
    have hg : A[y]? = some A[y] := List.getElem?_eq_getElem hyA
    have ih := parts_l1 h hlen hdn K suf (pre ++ [y]) (A.set y ((R y : Nat) : Int)) (by rw [e]; simp) (by rw [List.length_set]; exact hA) (fun i hi => by
      rw [List.getElem?_set]
      by_cases hyi : y = i
      · subst hyi; rw [if_pos rfl, if_pos hyA, if_pos (by simp)]
      · rw [if_neg hyi, hp i hi]
        have : ¬ i = y := fun e => hyi e.symm
        simp [this])
    rw [show (pre ++ [y]).length = pre.length + 1 by simp] at ih
    apply quorums_Parts_l1_le
    rw [ltB_drop hd]
    simp only [cond_true, nth_drop (map_drop_cons hd), Int.toNat_natCast]
    rw [show Config.mk c.Members = c from rfl, (h.1 y hy).1]
    simp only [Option.bind_some]
    rw [nth_get (y := A[y]) (by omega) (by rw [Int.toNat_natCast]; exact hg), nthN_get hg, next_nat (by omega)]
    exact ih
end
end Go.Proofs.YtflmdbdigoeclaaGreat
