/- Any configuration, any set, any list: the program's blocking and the reference's agree. -/
import Derived.Test.YtfailfoncbbgjaaP11Cut
import Derived.Test.YtfailfoncbbgjaaP11Bent
namespace Go.Proofs.Ytfailfoncbbgjaa
open Go Go.Ab
theorem blocks_bad {c : Config} {s : Int} (h : s < 0 ∨ 1024 ≤ s) (v : Int) : blocking_Blocks c v s = some false := by
  apply blocking_Blocks_le
  rw [nodeset_Valid_bad h]; rfl
theorem rblocks_bad {c : Config} {s : Int} (h : s < 0 ∨ 1024 ≤ s) (v : Int) : ref11_Blocks c v s = some false := by
  apply ref11_Blocks_le
  rw [ref01_Valid_bad h]; rfl
theorem blocks_both {c : Config} (hc : SmallC c) (v s : Int) : ∃ b, blocking_Blocks c v s = some b ∧ ref11_Blocks c v s = some b := by
  rcases set_cases s with h | ⟨n, hn, rfl⟩
  · exact ⟨false, blocks_bad h v, rblocks_bad h v⟩
  · exact ⟨_, blocks_ok hc hn v, rblocks_ok hc hn v⟩
theorem exists_least (p : Nat → Bool) : ∀ (n X : Nat), X < n → p X = true → ∃ y, Sub y X ∧ p y = true ∧ ∀ z, Sub z y → p z = true → z = y
  | 0, X, h, _ => by omega
  | n + 1, X, h, hs => by
    by_cases hz : ∃ z, Sub z X ∧ p z = true ∧ z ≠ X
    · obtain ⟨z, h1, h2, h3⟩ := hz
      have := sub_le h1
      obtain ⟨y, g1, g2, g3⟩ := exists_least p n z (by omega) h2
      exact ⟨y, g1.trans h1, g2, g3⟩
    · refine ⟨X, Sub.refl _, hs, fun z h1 h2 => ?_⟩
      by_cases he : z = X
      · exact he
      · exact absurd ⟨z, h1, h2, he⟩ hz
def minK (c : Config) (v s : Nat) : Bool := (nodes s).all fun k => !blk c v (s - 2 ^ k)
def blkM (c : Config) (v s : Nat) : Bool := blk c v s && minK c v s
theorem rb_l2 {c : Config} (hc : SmallC c) {v s : Nat} (hs : s < 1024) {acc : List Nat} (hacc : acc.length ≤ 1024) {r : List Int × Int} {l : List Nat} (hl : l.length ≤ 10) (hb : ∀ k ∈ l, s.testBit k = true)
    (hyes : (l.all fun k => !blk c v (s - 2 ^ k)) = true → ref11_Least_l1 (v : Int) ((acc ++ [s]).map Int.ofNat) ((s + 1 : Nat) : Int) c.Members = some r)
    (hno : (l.all fun k => !blk c v (s - 2 ^ k)) = false → ref11_Least_l1 (v : Int) (acc.map Int.ofNat) ((s + 1 : Nat) : Int) c.Members = some r) :
    ∀ (suf pre : List Nat), l = pre ++ suf → ∀ b, b = (pre.all fun k => !blk c v (s - 2 ^ k)) → ref11_Least_l2 (v : Int) (acc.map Int.ofNat) (s : Int) b (l.map Int.ofNat) ((l.length : Nat) : Int) ((pre.length : Nat) : Int) c.Members = some r
  | [], pre, e, b, he => by
    have hd := drop_pre e
    rw [List.append_nil] at e
    rw [← e] at he
    apply ref11_Least_l2_le
    rw [ltB_end hd]
    simp only [cond_false]
    rw [next_nat (by omega)]
    cases b with
    | true =>
      rw [capOk_true (by simp [maxElems]; omega)]
      have := hyes he.symm
      rw [List.map_append] at this
      exact this
    | false => exact hno he.symm
  | k :: suf, pre, e, b, he => by
    have hd := drop_pre e
    have hlt := lt_drop hd
    have hk := hb k (by rw [e]; simp)
    have hk10 := bit_lt_of hs hk
    have hp := Nat.ge_two_pow_of_testBit hk
    have ih := rb_l2 hc hs hacc hl hb hyes hno suf (pre ++ [k]) (by rw [e]; simp)
    rw [show (pre ++ [k]).length = pre.length + 1 by simp] at ih
    have hm : ((pre ++ [k]).all fun k => !blk c v (s - 2 ^ k)) = ((pre.all fun k => !blk c v (s - 2 ^ k)) && !blk c v (s - 2 ^ k)) := by simp
    apply ref11_Least_l2_le
    rw [ltB_drop hd]
    simp only [cond_true, nth_drop (map_drop_cons hd)]
    cases b with
    | true =>
      simp only [cond_true]
      rw [chk_true (by omega), shl1 (by omega) (by omega), Int.toNat_natCast, subI_nat hp (by omega), show Config.mk c.Members = c from rfl, rblocks_nat hc (s := s - 2 ^ k) (Nat.lt_of_le_of_lt (Nat.sub_le _ _) hs), next_nat (by omega)]
      simp only [Option.bind_some]
      exact ih _ (by rw [hm, ← he]; rfl)
    | false =>
      simp only [cond_false]
      rw [next_nat (by omega)]
      exact ih _ (by rw [hm, ← he]; rfl)
theorem rb_l1 {c : Config} (hc : SmallC c) {v : Nat} {r : List Int} (hr : ref01_Least ((pick (blkM c v) 1024).map Int.ofNat) = some r) : ∀ (n i : Nat), i + n = 1024 →
    ref11_Least_l1 (v : Int) ((pick (blkM c v) i).map Int.ofNat) (i : Int) c.Members = some (r, 0)
  | 0, i, h => by
    have : i = 1024 := by omega
    subst this
    apply ref11_Least_l1_le
    rw [leB_false (by omega), hr]; rfl
  | n + 1, i, h => by
    have hi : i < 1024 := by omega
    have ih := rb_l1 hc hr n (i + 1) (by omega)
    rw [pick_succ] at ih
    have hle := pick_len (blkM c v) i
    apply ref11_Least_l1_le
    rw [leB_true (by omega), show Config.mk c.Members = c from rfl, rblocks_nat hc hi]
    simp only [cond_true, Option.bind_some]
    cases h1 : blk c v i with
    | false =>
      rw [if_neg (by simp [blkM, h1])] at ih
      rw [next_nat (by omega)]
      exact ih
    | true =>
      simp only [Bool.not_true, cond_false]
      rw [nodes_ok hi]
      simp only [Option.bind_some, List.length_map]
      refine rb_l2 hc hi (by omega) (nodes_len i) (fun k hk => (mem_nodes.1 hk).1) (fun h2 => ?_) (fun h2 => ?_) (nodes i) [] rfl true rfl
      · rw [if_pos (by simp [blkM, h1, minK, h2])] at ih
        exact ih
      · rw [if_neg (by simp only [blkM, h1, minK, h2]; decide)] at ih
        exact ih
theorem rbleast_ok {c : Config} (hc : SmallC c) (he : cerr c = 0) {v : Nat} (hv : (decl c).testBit v = true) : ∃ out, ref11_Least c (v : Int) = some (out.map Int.ofNat, 0) ∧ LeastOf (pick (blk c v) 1024) out := by
  obtain ⟨m, h1, h2, h3⟩ := member_of hv
  have hlt : v < c.Members.length := (List.getElem?_eq_some_iff.1 h1).1
  have hcl := (cerr_zero.1 he).1
  obtain ⟨out, k1, k2⟩ := rleast_ok (pick (blkM c v) 1024) (by have := pick_len (blkM c v) 1024; omega) fun s hs => (mem_pick.1 hs).1
  refine ⟨out, ?_, k2.of (mins_of (fun s hs => ?_) fun s hs => ?_)⟩
  · apply ref11_Least_le
    rw [rcerr_ok hc, he]
    simp only [Option.bind_some, neB_self, cond_false]
    rw [ltB_false (by omega), leB_false (by omega), nth_get (by omega) (by simpa using h1), h3]
    simp only [cond_false, Bool.not_true]
    have := rb_l1 hc k1 1024 0 rfl
    simpa [pick] using this
  · have := mem_pick.1 hs
    simp only [blkM, Bool.and_eq_true] at this
    exact mem_pick.2 ⟨this.1, this.2.1⟩
  · have := mem_pick.1 hs
    obtain ⟨y, g1, g2, g3⟩ := exists_least (blk c v) _ s (Nat.lt_succ_self _) this.2
    refine ⟨y, mem_pick.2 ⟨g1.lt this.1, ?_⟩, g1⟩
    simp only [blkM, g2, Bool.true_and, minK, List.all_eq_true]
    intro k hk
    obtain ⟨q1, q2⟩ := sub_pow (mem_nodes.1 hk).1
    cases hq : blk c v (y - 2 ^ k) with
    | false => rfl
    | true => have := g3 _ q2 hq; omega
theorem least_both {c : Config} (hc : SmallC c) (v : Int) : ∃ out e, blocking_Least c v = some (out, e) ∧ ref11_Least c v = some (out, e) ∧ out.length < 100000 := by
  have hlen := hc.1
  by_cases he : cerr c = 0
  · have hcl := (cerr_zero.1 he).1
    have pre : ∀ r, (bif (ltB v 0) then some (([] : List (Int)), (5 : Int)) else bif (leB ((List.length c.Members : Nat) : Int) v) then some (([] : List (Int)), 5) else nth c.Members v fun y1 => bif (!y1.Declared) then some (([] : List (Int)), 10) else none) = some r → blocking_Least c v = some r ∧ ref11_Least c v = some r := by
      intro r hr
      constructor
      · apply blocking_Least_le
        rw [pcerr_ok hc, he]
        simp only [Option.bind_some, neB_self, cond_false]
        cases h0 : ltB v 0 with
        | true => rw [h0] at hr; exact hr
        | false =>
          rw [h0] at hr
          simp only [cond_false] at hr ⊢
          cases h1 : leB ((List.length c.Members : Nat) : Int) v with
          | true => rw [h1] at hr; exact hr
          | false =>
            rw [h1] at hr
            simp only [cond_false] at hr ⊢
            have hv0 : 0 ≤ v := by simpa [ltB] using h0
            have hv1 : v < ((List.length c.Members : Nat) : Int) := by simpa [leB] using h1
            have hg : c.Members[v.toNat]? = some (c.Members[v.toNat]'(by omega)) := List.getElem?_eq_getElem (by omega)
            rw [nth_get hv0 hg] at hr ⊢
            cases hd : (c.Members[v.toNat]'(by omega)).Declared with
            | false => rw [hd] at hr; exact hr
            | true => rw [hd] at hr; cases hr
      · apply ref11_Least_le
        rw [rcerr_ok hc, he]
        simp only [Option.bind_some, neB_self, cond_false]
        cases h0 : ltB v 0 with
        | true => rw [h0] at hr; exact hr
        | false =>
          rw [h0] at hr
          simp only [cond_false] at hr ⊢
          cases h1 : leB ((List.length c.Members : Nat) : Int) v with
          | true => rw [h1] at hr; exact hr
          | false =>
            rw [h1] at hr
            simp only [cond_false] at hr ⊢
            have hv0 : 0 ≤ v := by simpa [ltB] using h0
            have hv1 : v < ((List.length c.Members : Nat) : Int) := by simpa [leB] using h1
            have hg : c.Members[v.toNat]? = some (c.Members[v.toNat]'(by omega)) := List.getElem?_eq_getElem (by omega)
            rw [nth_get hv0 hg] at hr ⊢
            cases hd : (c.Members[v.toNat]'(by omega)).Declared with
            | false => rw [hd] at hr; exact hr
            | true => rw [hd] at hr; cases hr
    by_cases h0 : v < 0
    · obtain ⟨a, b⟩ := pre ([], 5) (by rw [ltB_true h0]; rfl)
      exact ⟨[], 5, a, b, by decide⟩
    by_cases h1 : ((List.length c.Members : Nat) : Int) ≤ v
    · obtain ⟨a, b⟩ := pre ([], 5) (by rw [ltB_false (by omega), leB_true h1]; rfl)
      exact ⟨[], 5, a, b, by decide⟩
    obtain ⟨n, rfl⟩ := Int.eq_ofNat_of_zero_le (show 0 ≤ v by omega)
    have hn : n < c.Members.length := by omega
    have hg : c.Members[n]? = some c.Members[n] := List.getElem?_eq_getElem hn
    cases hd : (c.Members[n]).Declared with
    | false =>
      obtain ⟨a, b⟩ := pre ([], 10) (by rw [ltB_false (by omega), leB_false (by omega), nth_get (y := c.Members[n]) (by omega) (by rw [Int.toNat_natCast]; exact hg), hd]; rfl)
      exact ⟨[], 10, a, b, by decide⟩
    | true =>
      have hdv : (decl c).testBit n = true := testBit_decl.2 ⟨by omega, _, hg, hd⟩
      obtain ⟨o1, a1, a2⟩ := bleast_ok hc he hdv
      obtain ⟨o2, b1, b2⟩ := rbleast_ok hc he hdv
      have := a2.unique b2 fun s => Iff.rfl
      subst this
      have hl := ord_len a2.1 fun s hs => (mem_pick.1 ((a2.2 s).1 hs).1).1
      exact ⟨_, 0, a1, b1, by simp; omega⟩
  · refine ⟨[], cerr c, ?_, ?_, by decide⟩
    · apply blocking_Least_le
      rw [pcerr_ok hc]
      simp only [Option.bind_some, neB_ne he, cond_true]
    · apply ref11_Least_le
      rw [rcerr_ok hc]
      simp only [Option.bind_some, neB_ne he, cond_true]
theorem pc_add {s k : Nat} (_hs : s < 1024) (hk : k < 10) (h : s.testBit k = false) : pc s < pc (s ||| 2 ^ k) := by
  obtain ⟨h1, h2⟩ := pc_sub_aux (Sub.left (a := s) (b := 2 ^ k)) 10 0
  refine Nat.lt_of_le_of_ne h1 fun e => ?_
  have := h2 e k (by omega) (by omega)
  rw [h] at this
  simp [Nat.testBit_or] at this
theorem casc_len (c : Config) : ∀ (n s : Nat), s < 1024 → (casc c n s).1.length + pc s ≤ 10
  | 0, s, _ => by have := pc_le s; simp [casc]; omega
  | n + 1, s, hs => by
    simp only [casc]
    cases h : nextv c s with
    | none => have := pc_le s; simp; omega
    | some k =>
      obtain ⟨h1, h2, h3, h4⟩ := nextv_some h
      have := casc_len c n (s ||| 2 ^ k) (or_lt hs (pow_lt' h1))
      have := pc_add hs h1 h3
      simp only [List.length_cons]
      omega
theorem cascade_both {c : Config} (hc : SmallC c) (s : Int) : ∃ l z, blocking_Cascade c s = some (l, z) ∧ ref11_Cascade c s = some (l, z) ∧ l.length ≤ 10 := by
  rcases set_cases s with h | ⟨n, hn, rfl⟩
  · refine ⟨[], 0, ?_, ?_, by simp⟩
    · apply blocking_Cascade_le
      rw [nodeset_Valid_bad h]; rfl
    · apply ref11_Cascade_le
      rw [ref01_Valid_bad h]; rfl
  · refine ⟨_, _, cascade_ok hc hn, rcascade_ok hc hn, ?_⟩
    have := casc_len c (1024 - n) n hn
    simp only [List.length_map]
    show (casc c (1024 - n) n).1.length ≤ 10
    omega
def chkI (c : Config) : Nat → List Int → Int × Int
  | s, [] => if (nextv c s).isSome = true then (0, 12) else ((s : Int), 0)
  | s, k :: r => if has s k = true then (0, 12) else if (decide (0 ≤ k) && blk c k.toNat s) = true then chkI c (s ||| 2 ^ k.toNat) r else (0, 12)
theorem pchk_l1 {c : Config} (hc : SmallC c) (l : List Int) (hl : l.length ≤ 2000) : ∀ (suf : List Int) (i s : Nat), l.drop i = suf → s < 1024 →
    blocking_Check_l1 (s : Int) l ((l.length : Nat) : Int) (i : Int) c.Members = some (chkI c s suf)
  | [], i, s, h, hs => by
    apply blocking_Check_l1_le
    rw [ltB_end h]
    simp only [cond_false]
    rw [show Config.mk c.Members = c from rfl, next_ok hc hs]
    simp only [Option.bind_some, chkI]
    cases nextv c s <;> rfl
  | k :: suf, i, s, h, hs => by
    have hlt := lt_drop h
    apply blocking_Check_l1_le
    rw [ltB_drop h]
    simp only [cond_true, nth_drop h]
    rw [nodeset_Has_ok hs, show Config.mk c.Members = c from rfl, blocks_ok hc hs]
    simp only [Option.bind_some, chkI]
    cases has s k with
    | true => rfl
    | false =>
      simp only [cond_false, Bool.false_eq_true, if_false]
      cases hb : decide (0 ≤ k) && blk c k.toNat s with
      | false => rfl
      | true =>
        simp only [Bool.and_eq_true, decide_eq_true_eq] at hb
        have hk := (blk_decl hb.2).2
        have hp := pow_lt' hk
        simp only [Bool.not_true, cond_false, if_true]
        rw [chk_true hb.1, shl1 hb.1 (by omega), orI_nat (by omega) (by omega), next_nat (by omega)]
        exact pchk_l1 hc l hl suf (i + 1) _ (drop_next h) (or_lt hs hp)
theorem rchk_l1 {c : Config} (hc : SmallC c) (l : List Int) (hl : l.length ≤ 2000) : ∀ (suf : List Int) (i s : Nat), l.drop i = suf → s < 1024 →
    ref11_Check_l1 (s : Int) l ((l.length : Nat) : Int) (i : Int) c.Members = some (chkI c s suf)
  | [], i, s, h, hs => by
    apply ref11_Check_l1_le
    rw [ltB_end h]
    simp only [cond_false]
    rw [show Config.mk c.Members = c from rfl, rnext_ok hc hs]
    simp only [Option.bind_some, chkI]
    cases nextv c s with
    | none => rfl
    | some k =>
      have : leB 0 ((k : Nat) : Int) = true := leB_true (by omega)
      simp only [this, cond_true, Option.isSome_some, if_true]
  | k :: suf, i, s, h, hs => by
    have hlt := lt_drop h
    apply ref11_Check_l1_le
    rw [ltB_drop h]
    simp only [cond_true, nth_drop h]
    rw [ref01_Has_ok hs, show Config.mk c.Members = c from rfl, rblocks_ok hc hs]
    simp only [Option.bind_some, chkI]
    cases has s k with
    | true => rfl
    | false =>
      simp only [cond_false, Bool.false_eq_true, if_false]
      cases hb : decide (0 ≤ k) && blk c k.toNat s with
      | false => rfl
      | true =>
        simp only [Bool.and_eq_true, decide_eq_true_eq] at hb
        have hk := (blk_decl hb.2).2
        have hp := pow_lt' hk
        simp only [Bool.not_true, cond_false, if_true]
        rw [chk_true hb.1, shl1 hb.1 (by omega), orI_nat (by omega) (by omega), next_nat (by omega)]
        exact rchk_l1 hc l hl suf (i + 1) _ (drop_next h) (or_lt hs hp)
theorem check_both {c : Config} (hc : SmallC c) (s : Int) {l : List Int} (hl : l.length ≤ 2000) : ∃ r : Int × Int, blocking_Check c s l = some r ∧ ref11_Check c s l = some r := by
  rcases set_cases s with h | ⟨n, hn, rfl⟩
  · refine ⟨(0, 1), ?_, ?_⟩
    · apply blocking_Check_le
      rw [nodeset_Valid_bad h]; rfl
    · apply ref11_Check_le
      rw [ref01_Valid_bad h]; rfl
  · refine ⟨chkI c n l, ?_, ?_⟩
    · apply blocking_Check_le
      rw [nodeset_Valid_ok hn]
      simp only [Option.bind_some, Bool.not_true, cond_false]
      exact pchk_l1 hc l hl l 0 n rfl hn
    · apply ref11_Check_le
      rw [ref01_Valid_ok hn]
      simp only [Option.bind_some, Bool.not_true, cond_false]
      exact rchk_l1 hc l hl l 0 n rfl hn
end Go.Proofs.Ytfailfoncbbgjaa
