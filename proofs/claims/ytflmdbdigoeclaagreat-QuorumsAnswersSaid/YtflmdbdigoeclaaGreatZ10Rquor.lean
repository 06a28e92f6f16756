/- The reference's quorums: the same as the program's, at any configuration. -/
import Derived.Test.YtflmdbdigoeclaaGreatZ10Parts
import Derived.Test.YtflmdbdigoeclaaGreatZ10Bent
namespace Go.Proofs.YtflmdbdigoeclaaGreat
open Go Go.Ab Go.Sort
theorem rall_l1 {c : Config} (hc : SmallC c) (hn : c.Members.length ≤ 10) : ∀ (k i : Nat), i + k = 2 ^ c.Members.length →
    ref10_all_l1 ((pick (quoB c) i).map Int.ofNat) (i : Int) c.Members = some ((pick (quoB c) (2 ^ c.Members.length)).map Int.ofNat)
  | 0, i, h => by
    have hp := pow10 hn
    have : i = 2 ^ c.Members.length := by omega
    subst this
    apply ref10_all_l1_le
    rw [chk_true (by omega), shl1 (by omega) (by omega), Int.toNat_natCast, ltB_false (by omega)]; rfl
  | k + 1, i, h => by
    have hp := pow10 hn
    have ih := rall_l1 hc hn k (i + 1) (by omega)
    rw [pick_succ] at ih
    have hle := pick_len (quoB c) i
    apply ref10_all_l1_le
    rw [chk_true (by omega), shl1 (by omega) (by omega), Int.toNat_natCast, ltB_true (by omega), show Config.mk c.Members = c from rfl, rquorum_ok (s := i) (by omega) hc, next_nat (by omega)]
    simp only [cond_true, Option.bind_some]
    cases hq : quoB c i with
    | true =>
      rw [if_pos hq, List.map_append] at ih
      rw [capOk_true (by simp [maxElems]; omega)]
      exact ih
    | false =>
      rw [if_neg (by simp [hq])] at ih
      exact ih
theorem rall_ok {c : Config} (hc : SmallC c) (hn : c.Members.length ≤ 10) : ref10_all c = some ((pick (quoB c) (2 ^ c.Members.length)).map Int.ofNat) := by
  apply ref10_all_le
  have := rall_l1 hc hn (2 ^ c.Members.length) 0 (by omega)
  simpa [pick] using this
theorem minimal_both {c : Config} (hc : SmallC c) : ∃ (l : List Nat) (e : Int), quorums_Minimal c = some (l.map Int.ofNat, e) ∧ ref10_Minimal c = some (l.map Int.ofNat, e) ∧ l.length ≤ 1024 ∧ ∀ x ∈ l, x < 1024 := by
  by_cases he : cerr c = 0
  · have hn := (cerr_zero.1 he).1
    have hp := pow10 hn
    obtain ⟨o1, a1, a2⟩ := pminimal_ok hc he
    obtain ⟨o2, b1, b2⟩ := rleast_ok (pick (quoB c) (2 ^ c.Members.length)) (by have := pick_len (quoB c) (2 ^ c.Members.length); omega) fun s hs => by have := (mem_pick.1 hs).1; omega
    have := a2.unique b2 fun s => Iff.rfl
    subst this
    have hlt : ∀ x ∈ o1, x < 1024 := fun x hx => by have := (mem_pick.1 ((a2.2 x).1 hx).1).1; omega
    refine ⟨o1, 0, a1, ?_, ord_len a2.1 hlt, hlt⟩
    apply ref10_Minimal_le
    rw [rcerr_ok hc, he]
    simp only [Option.bind_some, neB_self, cond_false]
    rw [rall_ok hc hn]
    simp only [Option.bind_some]
    rw [b1]; rfl
  · refine ⟨[], cerr c, ?_, ?_, by simp, by simp⟩
    · apply quorums_Minimal_le
      rw [pcerr_ok hc]
      simp only [Option.bind_some, neB_ne he, cond_true, List.map_nil]
    · apply ref10_Minimal_le
      rw [rcerr_ok hc]
      simp only [Option.bind_some, neB_ne he, cond_true, List.map_nil]
theorem count_both {c : Config} (hc : SmallC c) : ∃ r : Int × Int, quorums_Count c = some r ∧ ref10_Count c = some r := by
  by_cases he : cerr c = 0
  · refine ⟨_, pcount_ok hc he, ?_⟩
    apply ref10_Count_le
    rw [rcerr_ok hc, he]
    simp only [Option.bind_some, neB_self, cond_false]
    rw [rall_ok hc (cerr_zero.1 he).1]
    simp only [Option.bind_some, List.length_map]
  · refine ⟨(0, cerr c), ?_, ?_⟩
    · apply quorums_Count_le
      rw [pcerr_ok hc]
      simp only [Option.bind_some, neB_ne he, cond_true]
    · apply ref10_Count_le
      rw [rcerr_ok hc]
      simp only [Option.bind_some, neB_ne he, cond_true]
def orAll (l : List Nat) (a : Nat) : Nat := l.foldl (fun a x => a ||| x) a
theorem pcore_l1 (e : Int) (ms : List Member) {l : List Nat} (hl : l.length ≤ 1024) (hlt : ∀ x ∈ l, x < 1024) : ∀ (suf : List Nat) (i a : Nat), l.drop i = suf → a < 1024 →
    quorums_Core_l1 e (a : Int) (l.map Int.ofNat) ((l.length : Nat) : Int) (i : Int) ms = some (((orAll suf a : Nat) : Int), e)
  | [], i, a, h, ha => by
    apply quorums_Core_l1_le
    rw [ltB_end h]; rfl
  | x :: suf, i, a, h, ha => by
    have hl' := lt_drop h
    have hx := hlt x (List.mem_of_mem_drop (by rw [h]; simp))
    apply quorums_Core_l1_le
    rw [ltB_drop h]
    simp only [cond_true, nth_drop (map_drop_cons h)]
    rw [orI_nat (by omega) (by omega), next_nat (by omega)]
    exact pcore_l1 e ms hl hlt suf (i + 1) (a ||| x) (drop_next h) (or_lt ha hx)
theorem rcore_l1 (e : Int) (ms : List Member) {l : List Nat} (hl : l.length ≤ 1024) (hlt : ∀ x ∈ l, x < 1024) : ∀ (suf : List Nat) (i a : Nat), l.drop i = suf → a < 1024 →
    ref10_Core_l1 e (a : Int) (l.map Int.ofNat) ((l.length : Nat) : Int) (i : Int) ms = some (((orAll suf a : Nat) : Int), e)
  | [], i, a, h, ha => by
    apply ref10_Core_l1_le
    rw [ltB_end h]; rfl
  | x :: suf, i, a, h, ha => by
    have hl' := lt_drop h
    have hx := hlt x (List.mem_of_mem_drop (by rw [h]; simp))
    apply ref10_Core_l1_le
    rw [ltB_drop h]
    simp only [cond_true, nth_drop (map_drop_cons h)]
    rw [orI_nat (by omega) (by omega), next_nat (by omega)]
    exact rcore_l1 e ms hl hlt suf (i + 1) (a ||| x) (drop_next h) (or_lt ha hx)
theorem core_both {c : Config} (hc : SmallC c) : ∃ r : Int × Int, quorums_Core c = some r ∧ ref10_Core c = some r := by
  obtain ⟨l, e, a1, a2, a3, a4⟩ := minimal_both hc
  refine ⟨(((orAll l 0 : Nat) : Int), e), ?_, ?_⟩
  · apply quorums_Core_le
    rw [a1]
    simp only [Option.bind_some, List.length_map]
    exact pcore_l1 e c.Members a3 a4 l 0 0 rfl (by decide)
  · apply ref10_Core_le
    rw [a2]
    simp only [Option.bind_some, List.length_map]
    exact rcore_l1 e c.Members a3 a4 l 0 0 rfl (by decide)
theorem rreach_l2 {c : Config} (hc : SmallC c) {s : Nat} (hd : Sub s (decl c)) {l : List Nat} (hl : l.length ≤ 10) (hm : ∀ i ∈ l, s.testBit i = true) {r : Int}
    (K : (bif (stepOr c l s != s) then ref10_reach_l2 ((stepOr c l s : Nat) : Int) false ((nodes (stepOr c l s)).map Int.ofNat) (((nodes (stepOr c l s)).length : Nat) : Int) 0 c.Members else some ((stepOr c l s : Nat) : Int)) = some r) : ∀ (suf pre : List Nat), l = pre ++ suf → ∀ b, b = (stepOr c pre s != s) →
    ref10_reach_l2 ((stepOr c pre s : Nat) : Int) b (l.map Int.ofNat) ((l.length : Nat) : Int) ((pre.length : Nat) : Int) c.Members = some r
  | [], pre, e, b, hb => by
    have hd' := drop_pre e
    rw [List.append_nil] at e
    rw [← e] at hb ⊢
    rw [← hb] at K
    have hst := (step_decl (l := l) hd).lt (decl_lt c)
    rw [← e] at hd'
    apply ref10_reach_l2_le
    rw [ltB_end hd']
    simp only [cond_false]
    apply ref10_reach_l3_le
    cases b with
    | true =>
      simp only [cond_true]
      rw [nodes_ok hst]
      simp only [Option.bind_some, List.length_map]
      exact K
    | false => exact K
  | y :: suf, pre, e, b, hb => by
    have hd' := drop_pre e
    have hlt := lt_drop hd'
    have hdl := decl_lt c
    obtain ⟨m, h1, h2, _⟩ := member_of (hd y (hm y (by rw [e]; simp)))
    have hul := uses_lt (tr c y)
    have hst := (step_decl (l := pre) hd).lt hdl
    have hal := and_lt' (b := decl c) hul
    have hss := step_sub c pre s
    have hsl := sub_le hss
    have hstep : stepOr c (pre ++ [y]) s = stepOr c pre s ||| (uses (tr c y) &&& decl c) := by simp [stepOr]
    have hnl : stepOr c pre s ||| (uses (tr c y) &&& decl c) < 1024 := or_lt hst hal
    have hge : stepOr c pre s ≤ stepOr c pre s ||| (uses (tr c y) &&& decl c) := Nat.left_le_or
    have ih := rreach_l2 hc hd hl hm K suf (pre ++ [y]) (by rw [e]; simp)
    rw [show (pre ++ [y]).length = pre.length + 1 by simp, hstep] at ih
    apply ref10_reach_l2_le
    rw [ltB_drop hd']
    simp only [cond_true, nth_drop (map_drop_cons hd')]
    rw [nth_get (y := m) (by omega) (by rw [Int.toNat_natCast]; exact h1), uses_ok m.Trust (hc.2 m (List.mem_of_getElem? h1)), ← h2]
    simp only [Option.bind_some]
    rw [show Config.mk c.Members = c from rfl, declared_ok c hc.1]
    simp only [Option.bind_some]
    rw [andI_nat (by omega) (by omega), orI_nat (by omega) (by omega), next_nat (by omega)]
    cases b with
    | true =>
      refine ih true ?_
      have hne : stepOr c pre s ≠ s := by simpa using hb.symm
      symm
      rw [bne_iff_ne]
      omega
    | false =>
      have heq : stepOr c pre s = s := by simpa using hb.symm
      refine ih _ ?_
      by_cases h : stepOr c pre s ||| (uses (tr c y) &&& decl c) = stepOr c pre s
      · rw [h, neB_self, heq]; simp
      · rw [neB_ne (by omega)]
        symm
        rw [bne_iff_ne]
        omega
theorem rreach_run {c : Config} (hc : SmallC c) : ∀ (n s : Nat), 1024 - s ≤ n → Sub s (decl c) → ∃ r : Nat, ref10_reach_l2 (s : Int) false ((nodes s).map Int.ofNat) (((nodes s).length : Nat) : Int) 0 c.Members = some (r : Int) ∧ Sub s r ∧ Sub r (decl c) ∧ closedR c r ∧ ∀ t, Sub s t → closedR c t → Sub r t
  | 0, s, hn, hd => by have := hd.lt (decl_lt c); omega
  | n + 1, s, hn, hd => by
    have hs := hd.lt (decl_lt c)
    have hmem : ∀ i ∈ nodes s, s.testBit i = true := fun i hi => (mem_nodes.1 hi).1
    by_cases he : stepOr c (nodes s) s = s
    · refine ⟨s, ?_, Sub.refl s, hd, fun j hj i hi => ?_, fun t h _ => h⟩
      · exact rreach_l2 hc hd (nodes_len s) hmem (r := (s : Int)) (by rw [he]; simp) (nodes s) [] rfl false (by simp [stepOr])
      · rw [← he, step_bit, Bool.or_eq_true, List.any_eq_true]
        exact .inr ⟨j, mem_nodes.2 ⟨hj, bit_lt_of hs hj⟩, hi⟩
    · have hsub := step_sub c (nodes s) s
      have := sub_le hsub
      obtain ⟨r, h1, h2, h3, h4, h5⟩ := rreach_run hc n (stepOr c (nodes s) s) (by omega) (step_decl hd)
      refine ⟨r, ?_, hsub.trans h2, h3, h4, fun t ht hcl => h5 t (fun i hi => ?_) hcl⟩
      · exact rreach_l2 hc hd (nodes_len s) hmem (r := (r : Int)) (by rw [show (stepOr c (nodes s) s != s) = true by rw [bne_iff_ne]; exact he]; exact h1) (nodes s) [] rfl false (by simp [stepOr])
      · rw [step_bit, Bool.or_eq_true, List.any_eq_true] at hi
        rcases hi with hi | ⟨j, hj, hji⟩
        · exact ht i hi
        · exact hcl j (ht j (hmem j hj)) i hji
theorem rreach_ok {c : Config} (hc : SmallC c) {R : Nat → Nat} (h : Reaches c R) {k : Nat} (hk : (decl c).testBit k = true) : ref10_reach c (k : Int) = some ((R k : Nat) : Int) := by
  have hk10 := bit_lt_of (decl_lt c) hk
  obtain ⟨r, h1, h2, h3, h4, h5⟩ := rreach_run hc _ (2 ^ k) (Nat.le_refl _) (Sub.pow hk)
  have hR := (h.1 k hk).2
  have : r = R k := Sub.antisymm (h5 (R k) (Sub.pow hR.1) hR.2.2.1) (hR.2.2.2 r (h2 k (by rw [testBit_pow]; simp)) h4)
  subst this
  have hp := pow_lt' hk10
  apply ref10_reach_le
  rw [chk_true (by omega), shl1 (by omega) (by omega), Int.toNat_natCast]
  apply ref10_reach_l1_le
  simp only [cond_true]
  rw [nodes_ok hp]
  simp only [Option.bind_some, List.length_map]
  exact h1
def pf (R : Nat → Nat) : List Nat → List Nat → Nat → List Nat
  | [], out, _ => out
  | k :: r, out, done => if done.testBit k = true then pf R r out done else pf R r (out ++ [cls R k]) (done ||| cls R k)
section
variable {c : Config} {R : Nat → Nat}
theorem nodes_none {d : Nat} {n : Nat} (hdn : ∀ i, d.testBit i = true → i < n) : ∀ m i, n ≤ i → nodesFrom d m i = []
  | 0, i, _ => rfl
  | m + 1, i, h => by
    have hb : d.testBit i = false := by
      cases hb : d.testBit i with
      | false => rfl
      | true => have := hdn i hb; omega
    simp only [nodesFrom, hb]
    exact nodes_none hdn m (i + 1) (by omega)
theorem parts_f (h : Reaches c R) {n : Nat} (hdn : ∀ i, (decl c).testBit i = true → i < n) (hn : n ≤ 10) : ∀ (j k : Nat) (out : List Nat) (done : Nat), k + j = n → Sub done (decl c) → out.length ≤ k →
    quorums_Parts_l2 (RL R n) (out.map Int.ofNat) (done : Int) (n : Int) (k : Int) c.Members = some ((pf R (nodesFrom (decl c) (10 - k) k) out done).map Int.ofNat, 0)
  | 0, k, out, done, hk, hs, hol => by
    have : k = n := by omega
    subst this
    rw [nodes_none hdn _ _ (Nat.le_refl _)]
    apply quorums_Parts_l2_le
    rw [ltB_false (by omega)]; rfl
  | j + 1, k, out, done, hk, hs, hol => by
    have hkn : k < n := by omega
    have hdone := hs.lt (decl_lt c)
    have hpk := pow_lt' (show k < 10 by omega)
    have hRk := h.lt k
    have hz : (done &&& 2 ^ k != 0) = done.testBit k := by
      rw [and_pow]
      cases done.testBit k with
      | true => have := Nat.two_pow_pos k; simp
      | false => rfl
    rw [show 10 - k = (10 - (k + 1)) + 1 by omega]
    simp only [nodesFrom]
    have ih := fun out done => parts_f h hdn hn j (k + 1) out done (by omega)
    have pre : ∀ r, (bif done.testBit k then quorums_Parts_l2 (RL R n) (out.map Int.ofNat) (done : Int) (n : Int) ((k + 1 : Nat) : Int) c.Members else
        bif (R k == 0) then quorums_Parts_l2 (RL R n) (out.map Int.ofNat) (done : Int) (n : Int) ((k + 1 : Nat) : Int) c.Members else
        quorums_Parts_l3 (RL R n) (out.map Int.ofNat) (done : Int) (k : Int) 0 (n : Int) (k : Int) ((nodes (R k)).map Int.ofNat) (((nodes (R k)).length : Nat) : Int) 0 c.Members) = some r → quorums_Parts_l2 (RL R n) (out.map Int.ofNat) (done : Int) (n : Int) (k : Int) c.Members = some r := by
      intro r hr
      apply quorums_Parts_l2_le
      rw [ltB_true (by omega)]
      simp only [cond_true, Int.toNat_natCast]
      rw [nth_get (y := ((R k : Nat) : Int)) (by omega) (by rw [Int.toNat_natCast]; exact RL_get hkn), nthN_get (RL_get hkn), chk_true (by omega), shl1 (by omega) (by omega), Int.toNat_natCast, andI_nat (by omega) (by omega), neB_nat, eqB_nat, hz, next_nat (by omega), pnodes_ok hRk]
      simp only [Option.bind_some, List.length_map]
      exact hr
    apply pre
    cases hdk : (decl c).testBit k with
    | false =>
      rw [h.2 k hdk]
      have := ih out done hs (by omega)
      cases done.testBit k <;> exact this
    | true =>
      have hrefl := (h.1 k hdk).2.1
      have hR0 : (R k == 0) = false := by
        have : R k ≠ 0 := fun e => by rw [e] at hrefl; simp at hrefl
        simp [this]
      rw [hR0]
      simp only [if_true, pf]
      cases hb : done.testBit k with
      | true =>
        rw [if_pos rfl]
        exact ih out done hs (by omega)
      | false =>
        rw [if_neg (by simp)]
        have e1 := ih (out ++ [cls R k]) (done ||| cls R k) (Sub.or hs fun i hi => (h.dec ((mem_cls h).1 hi).1).2) (by simp; omega)
        rw [List.map_append] at e1
        exact parts_l3 h hdn hn hkn hdone (by simp; omega) e1 (nodes (R k)) [] rfl
theorem rparts_l2 (hc : SmallC c) (h : Reaches c R) {k : Nat} (hk : k < 10) {out : List Int} {done : Nat} (hdone : done < 1024) (hol : out.length ≤ 1000) {L : List Int} {len i : Int} {r : List Int × Int}
    (K : ref10_Parts_l1 (out ++ [((cls R k : Nat) : Int)]) ((done ||| cls R k : Nat) : Int) L len (addI .i64 i 1) c.Members = some r) : ∀ (suf pre : List Nat), nodes (R k) = pre ++ suf →
    ref10_Parts_l2 out (done : Int) (k : Int) ((clsF R k pre 0 : Nat) : Int) L len i ((nodes (R k)).map Int.ofNat) (((nodes (R k)).length : Nat) : Int) ((pre.length : Nat) : Int) c.Members = some r
  | [], pre, e => by
    have hd := drop_pre e
    rw [List.append_nil] at e
    have hcl := cls_lt h k
    have hcs : clsF R k pre 0 = cls R k := by rw [← e]; rfl
    apply ref10_Parts_l2_le
    rw [ltB_end hd, capOk_true (by simp [maxElems]; omega), hcs]
    simp only [cond_false]
    rw [orI_nat (by omega) (by omega)]
    exact K
  | y :: suf, pre, e => by
    have hd := drop_pre e
    have hlt := lt_drop hd
    have hlen := nodes_len (R k)
    have hy := mem_nodes.1 (show y ∈ nodes (R k) by rw [e]; simp)
    have hyd := (h.dec hy.1).2
    have hpre : ∀ i ∈ pre, i < 10 := fun i hi => (mem_nodes.1 (show i ∈ nodes (R k) by rw [e]; simp [hi])).2
    have hcf := clsF_lt (R := R) k pre 0 hpre (by decide)
    have hpy := pow_lt' hy.2
    have ih := rparts_l2 hc h hk hdone hol K suf (pre ++ [y]) (by rw [e]; simp)
    rw [show (pre ++ [y]).length = pre.length + 1 by simp, show clsF R k (pre ++ [y]) 0 = (if (R y).testBit k = true then clsF R k pre 0 ||| 2 ^ y else clsF R k pre 0) by simp [clsF]] at ih
    apply ref10_Parts_l2_le
    rw [ltB_drop hd]
    simp only [cond_true, nth_drop (map_drop_cons hd)]
    rw [show Config.mk c.Members = c from rfl, rreach_ok hc h hyd]
    simp only [Option.bind_some]
    rw [ref01_Has_ok (h.lt y), has_nat hk]
    simp only [Option.bind_some]
    cases hb : (R y).testBit k with
    | true =>
      rw [if_pos hb] at ih
      simp only [cond_true]
      rw [chk_true (by omega), shl1 (by omega) (by omega), Int.toNat_natCast, orI_nat (by omega) (by omega), next_nat (by omega)]
      exact ih
    | false =>
      rw [if_neg (by simp [hb])] at ih
      simp only [cond_false]
      rw [next_nat (by omega)]
      exact ih
theorem rparts_l1 (hc : SmallC c) (h : Reaches c R) {l : List Nat} (hl : l.length ≤ 10) (hm : ∀ k ∈ l, (decl c).testBit k = true) : ∀ (suf : List Nat) (i : Nat) (out : List Nat) (done : Nat), l.drop i = suf → Sub done (decl c) → out.length ≤ i →
    ref10_Parts_l1 (out.map Int.ofNat) (done : Int) (l.map Int.ofNat) ((l.length : Nat) : Int) (i : Int) c.Members = some ((pf R suf out done).map Int.ofNat, 0)
  | [], i, out, done, hd, hs, hol => by
    apply ref10_Parts_l1_le
    rw [ltB_end hd]; rfl
  | k :: suf, i, out, done, hd, hs, hol => by
    have hlt := lt_drop hd
    have hdk := hm k (List.mem_of_mem_drop (by rw [hd]; simp))
    have hk10 := bit_lt_of (decl_lt c) hdk
    have hdone := hs.lt (decl_lt c)
    apply ref10_Parts_l1_le
    rw [ltB_drop hd]
    simp only [cond_true, nth_drop (map_drop_cons hd), pf]
    rw [ref01_Has_ok hdone, has_nat hk10]
    simp only [Option.bind_some]
    cases hb : done.testBit k with
    | true =>
      rw [if_pos rfl]
      simp only [cond_true]
      rw [next_nat (by omega)]
      exact rparts_l1 hc h hl hm suf (i + 1) out done (drop_next hd) hs (by omega)
    | false =>
      rw [if_neg (by simp)]
      simp only [cond_false]
      rw [show Config.mk c.Members = c from rfl, rreach_ok hc h hdk]
      simp only [Option.bind_some]
      rw [nodes_ok (h.lt k)]
      simp only [Option.bind_some, List.length_map]
      have e1 := rparts_l1 hc h hl hm suf (i + 1) (out ++ [cls R k]) (done ||| cls R k) (drop_next hd) (Sub.or hs fun i hi => (h.dec ((mem_cls h).1 hi).1).2) (by simp; omega)
      rw [← next_nat (show i < 4611686018427387904 by omega), List.map_append] at e1
      exact rparts_l2 hc h hk10 hdone (by simp; omega) e1 (nodes (R k)) [] rfl
end
theorem pf_len (R : Nat → Nat) : ∀ (l out : List Nat) (done : Nat), (pf R l out done).length ≤ out.length + l.length
  | [], out, _ => by simp [pf]
  | k :: r, out, done => by
    simp only [pf]
    split
    · have := pf_len R r out done; simp; omega
    · have := pf_len R r (out ++ [cls R k]) (done ||| cls R k); simp at this ⊢; omega
theorem parts_both {c : Config} (hc : SmallC c) : ∃ (l : List Int) (e : Int), quorums_Parts c = some (l, e) ∧ ref10_Parts c = some (l, e) ∧ l.length ≤ 10 := by
  by_cases he : cerr c = 0
  · have hn := (cerr_zero.1 he).1
    obtain ⟨R, hR⟩ := reaches hc
    have hdn : ∀ i, (decl c).testBit i = true → i < c.Members.length := fun i hi => by
      obtain ⟨m, h1, _⟩ := member_of hi
      exact (List.getElem?_eq_some_iff.1 h1).1
    have hnl := nodes_len (decl c)
    refine ⟨(pf R (nodes (decl c)) [] 0).map Int.ofNat, 0, ?_, ?_, by have := pf_len R (nodes (decl c)) [] 0; simp at this ⊢; omega⟩
    · have h1 := parts_f hR hdn hn c.Members.length 0 [] 0 (by omega) (fun i hi => by simp at hi) (Nat.le_refl _)
      apply quorums_Parts_le
      rw [pcerr_ok hc, he]
      simp only [Option.bind_some, neB_self, cond_false]
      rw [chk_true ⟨trivial, by omega, by omega⟩, pdeclared_ok c hc.1]
      simp only [Option.bind_some]
      rw [pnodes_ok (decl_lt c)]
      simp only [Option.bind_some, Int.toNat_natCast, List.length_map]
      exact parts_l1 hR rfl hdn h1 (nodes (decl c)) [] (List.replicate c.Members.length 0) rfl List.length_replicate (fun i hi => by
        rw [List.getElem?_replicate, if_pos hi]; simp)
    · apply ref10_Parts_le
      rw [rcerr_ok hc, he]
      simp only [Option.bind_some, neB_self, cond_false]
      rw [declared_ok c hc.1]
      simp only [Option.bind_some]
      rw [nodes_ok (decl_lt c)]
      simp only [Option.bind_some, List.length_map]
      exact rparts_l1 hc hR hnl (fun k hk => (mem_nodes.1 hk).1) (nodes (decl c)) 0 [] 0 rfl (fun i hi => by simp at hi) (Nat.le_refl _)
  · refine ⟨[], cerr c, ?_, ?_, by simp⟩
    · apply quorums_Parts_le
      rw [pcerr_ok hc]
      simp only [Option.bind_some, neB_ne he, cond_true]
    · apply ref10_Parts_le
      rw [rcerr_ok hc]
      simp only [Option.bind_some, neB_ne he, cond_true]
end Go.Proofs.YtflmdbdigoeclaaGreat
