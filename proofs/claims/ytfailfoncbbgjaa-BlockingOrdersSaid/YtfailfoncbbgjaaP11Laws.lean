/- Three laws of the cascade, on the machine. -/
import Derived.Test.YtfailfoncbbgjaaP11Block
import Derived.Test.YtfailfoncbbgjaaP11Awake
namespace Go.Proofs.Ytfailfoncbbgjaa
open Go Go.Ab

/-! ### BlockingGrows -/
theorem N1024 {l : List Int} {i : Int} (h : TapeOk l i) : ∃ (v : Nat) (j : Int), mk_Tape_N 1024 l i = some ((v : Int), l, j) ∧ v < 1024 ∧ TapeOk l j := by
  obtain ⟨v, j, g1, g2, g3, g4⟩ := N_ok (n := 1024) (by decide) (by decide) h
  obtain ⟨w, rfl⟩ := Int.eq_ofNat_of_zero_le g2
  exact ⟨w, j, g1, by omega, g4⟩
theorem grows_law (t : List Int) : law11_BlockingGrows t = some true := by
  apply law11_BlockingGrows_le
  obtain ⟨l, e1, t1⟩ := New_ok t
  obtain ⟨c, j1, e2, c1, t2⟩ := Config_ok (n := 10) (by decide) (by decide) t1
  obtain ⟨x, j2, e3, x1, t3⟩ := N1024 t2
  obtain ⟨z, j3, e4, z1, t4⟩ := N1024 t3
  have hc := c1.smallC (by decide)
  have hxz := or_lt x1 z1
  have hcx := cascade_lt c x1
  have hcy := cascade_lt c hxz
  rw [e1]
  simp only [Option.bind_some]
  rw [show (10 : Int) = ((10 : Nat) : Int) from rfl, e2]
  simp only [Option.bind_some]
  rw [e3]
  simp only [Option.bind_some]
  rw [e4]
  simp only [Option.bind_some]
  rw [cascade_ok hc x1, orI_nat (by omega) (by omega), cascade_ok hc hxz]
  simp only [Option.bind_some]
  rw [cascade_ok hc hcx, cascade_shut_self c (cascade_shut c x1)]
  simp only [Option.bind_some]
  rw [andI_nat (by omega) (by omega), andI_nat (by omega) (by omega)]
  rw [show (cascade c x).2 &&& x = x from by rw [Nat.and_comm]; exact sub_iff.1 (cascade_sub c x1), sub_iff.1 (cascade_mono c x1 hxz Sub.left)]
  simp only [eqB_self, cond_true, List.map_nil, List.length_nil, Int.natCast_zero]
  rw [awake_true]
  rfl

/-! ### BlockingRest -/
theorem belows_mem {m : Int} : ∀ {l : List Trust}, belows m l = true → ∀ x ∈ l, below m x = true
  | [], _, x, hx => by cases hx
  | y :: r, h, x, hx => by
    simp only [belows, Bool.and_eq_true] at h
    rcases List.mem_cons.1 hx with rfl | hx
    · exact h.1
    · exact belows_mem h.2 x hx
/-- A trust in nodes below m looks at these alone. -/
theorem sat_below {m : Int} {s z : Nat} (h : ∀ k : Int, 0 ≤ k → k < m → has s k = has z k) : ∀ t : Trust, below m t = true → sat s t = sat z t := by
  apply Trust.ind
  intro t ih ht
  rw [below_eq, Bool.and_eq_true] at ht
  rw [sat_eq, sat_eq]
  have h1 : cnt s t.Nodes = cnt z t.Nodes := by
    unfold cnt
    apply List.countP_congr
    intro k hk
    have := List.all_eq_true.1 ht.1 k hk
    simp only [Bool.and_eq_true, decide_eq_true_eq] at this
    rw [h k this.1 this.2]
  have h2 : ∀ l : List Trust, (∀ x ∈ l, sat s x = sat z x) → sats s l = sats z l := by
    intro l
    induction l with
    | nil => intro _; rfl
    | cons y r ihr =>
      intro hl
      simp only [sats]
      rw [hl y (by simp), ihr fun x hx => hl x (by simp [hx])]
  rw [h1, h2 t.Inner fun x hx => ih x hx (belows_mem ht.2 x hx)]
theorem rest_l1 {c : Config} (hc : SmallC c) {n x rest : Nat} (hn : n < 1024) (hx : x < 1024) (hr : rest < 1024) (hq : decl c = n → rest ≠ 0 → Quorum c rest) (l : List Nat) (hl : l.length ≤ 10) {tl : List Int} {ti : Int} :
    ∀ (suf : List Nat) (i : Nat), l.drop i = suf → (∀ k ∈ suf, (decl c).testBit k = true ∧ sat (ndiff n x) (tr c k) = true) →
    law11_BlockingRest_l1 (n : Int) (x : Int) (rest : Int) (l.map Int.ofNat) ((l.length : Nat) : Int) (i : Int) tl ti c.Members = some true
  | [], i, h, hk => by
    apply law11_BlockingRest_l1_le
    rw [ltB_end h]
    simp only [cond_false]
    rw [show Config.mk c.Members = c from rfl, declared_ok c hc.1]
    simp only [Option.bind_some]
    by_cases hd : decl c = n
    · rw [hd, eqB_self]
      simp only [cond_true]
      by_cases h0 : rest = 0
      · rw [h0, Int.natCast_zero, neB_self, awake_true]
        rfl
      · rw [neB_ne (by omega)]
        obtain ⟨r, e1, e2⟩ := quorum_ok hr hc
        have := e2.2 (hq hd h0)
        subst this
        rw [e1, awake_true]
        rfl
    · rw [eqB_ne (by omega), awake_true]
      rfl
  | k :: suf, i, h, hk => by
    have hlt := lt_drop h
    obtain ⟨hkd, hks⟩ := hk k (by simp)
    obtain ⟨m, h1, h2, _⟩ := member_of hkd
    have hm : (l.map Int.ofNat).drop i = (k : Int) :: suf.map Int.ofNat := by rw [← List.map_drop, h]; rfl
    have hnx := ndiff_lt' (b := x) hn
    apply law11_BlockingRest_l1_le
    rw [ltB_drop h]
    simp only [cond_true, nth_drop hm]
    rw [nth_get (by omega) (by simpa using h1), andNotI_nat (by omega) (by omega), satisfied_ok hnx m.Trust (hc.2 m (List.mem_of_getElem? h1)), ← h2, hks]
    simp only [Option.bind_some, Bool.not_true, cond_false]
    rw [next_nat (by omega)]
    exact rest_l1 hc hn hx hr hq l hl suf (i + 1) (drop_next h) (fun j hj => hk j (by simp [hj]))
theorem rest_law (t : List Int) : law11_BlockingRest t = some true := by
  apply law11_BlockingRest_le
  obtain ⟨l, e1, t1⟩ := New_ok t
  obtain ⟨c, j1, e2, c1, t2⟩ := Config_ok (n := 8) (by decide) (by decide) t1
  obtain ⟨v0, j2, e3, v1, v2, t3⟩ := N_ok (n := 256) (by decide) (by decide) t2
  obtain ⟨v, rfl⟩ := Int.eq_ofNat_of_zero_le v1
  have hc := c1.smallC (by decide)
  have hp := c1.pos
  have hle := c1.le
  rw [e1]
  simp only [Option.bind_some]
  rw [show (8 : Int) = ((8 : Nat) : Int) from rfl, e2]
  simp only [Option.bind_some]
  rw [chk_true (by omega), e3]
  simp only [Option.bind_some]
  generalize hm : c.Members.length = m at hp hle
  have hpow : 2 ^ m ≤ 256 := Nat.pow_le_pow_right (n := 2) (by decide) hle
  have hpos := Nat.two_pow_pos m
  rw [shl1 (by omega) (by omega), Int.toNat_natCast, subI64 (by omega) (by omega)]
  rw [show ((2 ^ m : Nat) : Int) - 1 = ((2 ^ m - 1 : Nat) : Int) by omega]
  generalize hnn : 2 ^ m - 1 = n
  have hn : n < 1024 := by omega
  have hnb : ∀ i, n.testBit i = decide (i < m) := fun i => by rw [← hnn, Nat.testBit_two_pow_sub_one]
  have hvn : v &&& n < 1024 := Nat.lt_of_le_of_lt Nat.and_le_right hn
  rw [andI_nat (by omega) (by omega), cascade_ok hc hvn]
  simp only [Option.bind_some]
  rw [declared_ok c hc.1]
  simp only [Option.bind_some]
  generalize hx : (cascade c (v &&& n)).2 = x
  have hxl : x < 1024 := by rw [← hx]; exact cascade_lt c hvn
  have hsh : Shut c x := by rw [← hx]; exact cascade_shut c hvn
  have hd := decl_lt c
  have hr := ndiff_lt' (b := x) hd
  rw [andNotI_nat (by omega) (by omega), nodes_ok hr]
  simp only [Option.bind_some, List.length_map]
  have hdm : ∀ i, (decl c).testBit i = true → i < m := fun i hi => by
    obtain ⟨mm, h1, _⟩ := member_of hi
    have := (List.getElem?_eq_some_iff.1 h1).1
    omega
  have key : ∀ k, (ndiff (decl c) x).testBit k = true → (decl c).testBit k = true ∧ sat (ndiff n x) (tr c k) = true := by
    intro k hk
    simp only [testBit_ndiff, Bool.and_eq_true, Bool.not_eq_true'] at hk
    refine ⟨hk.1, ?_⟩
    obtain ⟨mm, h1, h2, h3⟩ := member_of hk.1
    have hb := hsh k hk.2
    simp only [blk, hk.1, Bool.true_and, Bool.not_eq_false'] at hb
    rw [← hb]
    refine sat_below (m := (m : Int)) (fun i h0 hi => ?_) _ ?_
    · simp only [has, testBit_ndiff, Nat.testBit_or, testBit_pow, testBit_all, hnb]
      have hi' : i.toNat < m := by omega
      have : i < 10 := by omega
      by_cases hik : k = i.toNat
      · subst hik; simp [h0, this, hi', hk.2]
      · simp [h0, this, hi', hik, show i.toNat < 10 by omega]
    · rw [h2]
      have := (c1.good mm (List.mem_of_getElem? h1) h3).2
      rwa [hm] at this
  refine rest_l1 hc hn hxl hr ?_ _ (nodes_len _) _ 0 rfl (fun k hk => key k (mem_nodes.1 hk).1)
  intro hdn h0
  refine ⟨h0, fun i hi => ?_, fun k hk => ?_⟩
  · simp only [testBit_ndiff, Bool.and_eq_true] at hi; exact hi.1
  · have := (key k hk).2
    rwa [← hdn] at this

/-! ### BlockingOrders -/
theorem cands_l {c : Config} (hc : SmallC c) (hm : c.Members.length ≤ 10) {x have_ : Nat} (hh : have_ < 1024) {l : List Nat} {tl : List Int} {ti : Int}
    {Q : List Int → Prop} : ∀ (n i : Nat) (can : List Int), i + n = c.Members.length → can.length ≤ i →
    Le (law11_BlockingOrders_l2 (x : Int) (have_ : Int) (l.map Int.ofNat) (can ++ ((List.range' i n).filter fun k => !have_.testBit k && blk c k have_).map Int.ofNat) ((c.Members.length : Nat) : Int) ((c.Members.length : Nat) : Int) tl ti c.Members)
      (law11_BlockingOrders_l2 (x : Int) (have_ : Int) (l.map Int.ofNat) can ((c.Members.length : Nat) : Int) (i : Int) tl ti c.Members)
  | 0, i, can, hi, hl => by
    have : i = c.Members.length := by omega
    subst this
    simp only [List.range'_zero, List.filter_nil, List.map_nil, List.append_nil]
    exact Le.refl _
  | n + 1, i, can, hi, hl => fun r hr => by
    apply law11_BlockingOrders_l2_le
    rw [ltB_true (by omega)]
    simp only [cond_true]
    rw [chk_true (by omega), shrI_nat _ _ (by omega), show Config.mk c.Members = c from rfl, rblocks_nat hc hh, next_nat (by omega)]
    have e1 : andI .i64 ((have_ >>> i : Nat) : Int) 1 = (((have_ >>> i) &&& 1 : Nat) : Int) := andI_nat (b := 1) (Nat.lt_of_le_of_lt (Nat.shiftRight_le _ _) (by omega)) (by decide)
    rw [e1, shift_and_one]
    simp only [Option.bind_some]
    rw [List.range'_succ, List.filter_cons] at hr
    have go := cands_l hc hm hh (x := x) (l := l) (tl := tl) (ti := ti) (Q := Q) n (i + 1)
    cases hb : have_.testBit i with
    | true =>
      rw [hb] at hr
      exact go can (by omega) (by omega) r hr
    | false =>
      rw [hb] at hr
      cases hk : blk c i have_ with
      | true =>
        rw [hk] at hr
        simp only [Bool.false_eq_true, if_false, Int.natCast_zero, eqB_self, cond_true]
        rw [capOk_true (by simp [maxElems]; omega)]
        refine go _ (by omega) (by simp; omega) r ?_
        rw [← hr]
        congr 1
        simp
      | false =>
        rw [hk] at hr
        simp only [Bool.false_eq_true, if_false, Int.natCast_zero, eqB_self, cond_true, cond_false]
        exact go can (by omega) (by omega) r hr
theorem cands_nil {c : Config} {s : Nat} (hs : s < 1024) (h : ((List.range' 0 c.Members.length).filter fun k => !s.testBit k && blk c k s) = []) : Shut c s := by
  intro k hk
  cases hb : blk c k s with
  | false => rfl
  | true =>
    obtain ⟨mm, h1, _⟩ := member_of (blk_decl hb).1
    have hlt := (List.getElem?_eq_some_iff.1 h1).1
    have : k ∈ (List.range' 0 c.Members.length).filter fun k => !s.testBit k && blk c k s := List.mem_filter.2 ⟨by simp [List.mem_range'_1, hlt], by simp [hk, hb]⟩
    rw [h] at this; cases this
theorem orders_l1 {c : Config} (hc : SmallC c) (hm : c.Members.length ≤ 10) {x : Nat} (hx : x < 1024) {tl : List Int} : ∀ (n s : Nat) (l : List Nat) (ti : Int), 1024 - s ≤ n → s < 1024 → l.length + (1024 - s) ≤ 1024 → (∀ k ∈ l, k < 10) → adds c x l = some s → TapeOk tl ti →
    law11_BlockingOrders_l1 (x : Int) (s : Int) (l.map Int.ofNat) tl ti c.Members = some true
  | 0, s, l, ti, hn, hs, hl, hk, ha, ht => by omega
  | n + 1, s, l, ti, hn, hs, hl, hk, ha, ht => by
    apply law11_BlockingOrders_l1_le
    refine cands_l hc hm hs (Q := fun _ => True) c.Members.length 0 [] (by omega) (by simp) _ ?_
    simp only [List.nil_append]
    apply law11_BlockingOrders_l2_le
    rw [ltB_false (Int.le_refl _)]
    simp only [cond_false, List.length_map]
    generalize hcan : ((List.range' 0 c.Members.length).filter fun k => !s.testBit k && blk c k s) = can
    by_cases h0 : can.length = 0
    · have hsh : Shut c s := cands_nil hs (by rw [hcan]; exact List.length_eq_zero_iff.1 h0)
      rw [h0, Int.natCast_zero, eqB_self, show Config.mk c.Members = c from rfl, chkc_ok hc (by omega) hx hk, chkc_adds, ha, cascade_ok hc hx, adds_cascade c hx ha hsh]
      simp only [Option.bind_some, cond_true, nextv_of hsh, Option.isNone_none, if_true, neB_self, cond_false]
      cases hle : l.length with
      | zero =>
        rw [Int.natCast_zero, ltB_false (Int.le_refl _), awake_true]
        rfl
      | succ m =>
        rw [ltB_true (by omega), subI64 (by omega) (by omega)]
        simp only [cond_true]
        rw [hiK_true (by omega) (by omega)]
        have hne : l ≠ [] := by intro e; rw [e] at hle; cases hle
        have e1 : List.drop 0 (List.take ((((m + 1 : Nat) : Int) - 1).toNat) (List.map Int.ofNat l)) = (l.take m).map Int.ofNat := by
          rw [show (((m + 1 : Nat) : Int) - 1).toNat = m by omega, List.drop_zero, List.map_take]
        rw [e1, chkc_ok hc (by simp; omega) hx (fun k hk' => hk k (List.mem_of_mem_take hk')), chkc_adds]
        have hsplit : l = l.take m ++ [l[m]'(by omega)] := by
          rw [List.take_append_getElem]
          rw [← hle, List.take_length]
        rw [hsplit, adds_snoc] at ha
        cases ha' : adds c x (l.take m) with
        | none => rw [ha'] at ha; cases ha
        | some t =>
          rw [ha'] at ha
          simp only [Option.bind_some] at ha
          have hno : nextv c t ≠ none := by
            intro hno
            split at ha
            · cases ha
            · rename_i h1
              split at ha
              · rename_i h2
                rw [nextv_none hno _ (by simpa using h1)] at h2; cases h2
              · cases ha
          cases hnx : nextv c t with
          | none => exact absurd hnx hno
          | some k =>
            simp only [Option.bind_some, hnx, Option.isNone_some, Bool.false_eq_true, if_false, neB_self, cond_false]
            rw [awake_true]
            rfl
    · rw [eqB_ne (by omega)]
      simp only [cond_false]
      have hcl : can.length ≤ 10 := by
        rw [← hcan]
        have := List.length_filter_le (fun k => !s.testBit k && blk c k s) (List.range' 0 c.Members.length)
        rw [List.length_range'] at this; omega
      obtain ⟨v, j, g1, g2, g3, g4⟩ := N_ok (n := ((can.length : Nat) : Int)) (by omega) (by omega) ht
      have hv : v.toNat < can.length := by omega
      have hmem : can[v.toNat] ∈ can := List.getElem_mem hv
      rw [g1]
      simp only [Option.bind_some]
      have hg : (can.map Int.ofNat)[v.toNat]? = some ((can[v.toNat] : Nat) : Int) := by rw [List.getElem?_map, List.getElem?_eq_getElem hv]; rfl
      rw [nth_get g2 hg, nthN_get hg]
      generalize can[v.toNat] = k at hmem
      rw [← hcan] at hmem
      obtain ⟨hr, hp⟩ := List.mem_filter.1 hmem
      simp only [List.mem_range'_1, Bool.and_eq_true, Bool.not_eq_true'] at hr hp
      have hk10 : k < 10 := by omega
      have hpw := pow_lt' hk10
      have hgt := or_pow_gt hp.1
      rw [chk_true (by omega), capOk_true (by simp [maxElems]; omega), shl1 (by omega) (by omega), Int.toNat_natCast, orI_nat (by omega) (by omega)]
      have hnew := or_lt hs hpw
      have := orders_l1 hc hm hx (tl := tl) n (s ||| 2 ^ k) (l ++ [k]) j (by omega) hnew (by simp; omega) (fun q hq => by
          rcases List.mem_append.1 hq with h | h
          · exact hk q h
          · rw [List.mem_singleton] at h; omega) (by rw [adds_snoc, ha]; simp [hp.1, hp.2]) g4
      rw [← this]; congr 1; simp
theorem orders_law (t : List Int) : law11_BlockingOrders t = some true := by
  apply law11_BlockingOrders_le
  obtain ⟨l, e1, t1⟩ := New_ok t
  obtain ⟨c, j1, e2, c1, t2⟩ := Config_ok (n := 10) (by decide) (by decide) t1
  obtain ⟨x, j2, e3, x1, t3⟩ := N1024 t2
  rw [e1]
  simp only [Option.bind_some]
  rw [show (10 : Int) = ((10 : Nat) : Int) from rfl, e2]
  simp only [Option.bind_some]
  rw [e3]
  simp only [Option.bind_some]
  exact orders_l1 (c1.smallC (by decide)) c1.le x1 (1024 - x) x [] j2 (Nat.le_refl _) x1 (by simp) (by simp) rfl t3
end Go.Proofs.Ytfailfoncbbgjaa
