/- Slices of a trust, sets that meet a list, the least sets that block. -/
import Derived.Test.YtfailfoncbbgjaaP11Errs
import Derived.Test.YtfailfoncbbgjaaP11Block
import Derived.Test.YtfailfoncbbgjaaP11Least
namespace Go.Proofs.Ytfailfoncbbgjaa
open Go Go.Ab Go.Sort
theorem mkints_l1 {a b : List Int} (hl : a.length < 1152921504606846976) (hab : a.length = b.length) : ∀ (n i : Nat), i + n = a.length →
    ∃ r, mk_Ints_l1 a b ((a.length : Nat) : Int) (i : Int) = some r ∧ (r = true ↔ a.drop i = b.drop i)
  | 0, i, h => by
    refine ⟨true, ?_, by simp [List.drop_eq_nil_of_le (show a.length ≤ i by omega), List.drop_eq_nil_of_le (show b.length ≤ i by omega)]⟩
    apply mk_Ints_l1_le
    rw [ltB_false (by omega)]
    rfl
  | n + 1, i, h => by
    have h1 : i < a.length := by omega
    have h2 : i < b.length := by omega
    obtain ⟨r, e1, e2⟩ := mkints_l1 hl hab n (i + 1) (by omega)
    rw [drop_iff h1 h2]
    by_cases hx : a[i] = b[i]
    · refine ⟨r, ?_, by rw [e2]; simp [hx]⟩
      apply mk_Ints_l1_le
      rw [ltB_true (by omega), nth_get (by omega) (show a[((i : Nat) : Int).toNat]? = some a[i] by simp), nth_get (by omega) (show b[((i : Nat) : Int).toNat]? = some b[i] by simp), hx, neB_self, next_nat (by omega)]
      simp only [cond_true, cond_false]
      exact e1
    · refine ⟨false, ?_, by simp [hx]⟩
      apply mk_Ints_l1_le
      rw [ltB_true (by omega), nth_get (by omega) (show a[((i : Nat) : Int).toNat]? = some a[i] by simp), nth_get (by omega) (show b[((i : Nat) : Int).toNat]? = some b[i] by simp), neB_ne hx]
      rfl
theorem mkints {a b : List Int} (hl : a.length < 1152921504606846976) : ∃ r, mk_Ints a b = some r ∧ (r = true ↔ a = b) := by
  by_cases hab : a.length = b.length
  · obtain ⟨r, e1, e2⟩ := mkints_l1 hl hab a.length 0 (by omega)
    refine ⟨r, ?_, by simpa using e2⟩
    apply mk_Ints_le
    rw [← hab, neB_self]
    exact e1
  · refine ⟨false, ?_, by simp; rintro rfl; exact hab rfl⟩
    apply mk_Ints_le
    rw [neB_ne (by omega)]
    rfl
theorem mkints_dec {a b : List Int} (hl : a.length < 1152921504606846976) : mk_Ints a b = some (decide (a = b)) := by
  obtain ⟨r, h1, h2⟩ := mkints (b := b) hl
  rw [h1]
  congr 1
  rw [Bool.eq_iff_iff, h2, decide_eq_true_eq]
def pick (p : Nat → Bool) (n : Nat) : List Nat := (List.range n).filter p
theorem pick_succ (p : Nat → Bool) (n : Nat) : pick p (n + 1) = if p n = true then pick p n ++ [n] else pick p n := by
  unfold pick
  rw [List.range_succ, List.filter_append]
  by_cases h : p n = true <;> simp [h]
theorem mem_pick {p : Nat → Bool} {n s : Nat} : s ∈ pick p n ↔ s < n ∧ p s = true := by simp [pick]
theorem pick_len (p : Nat → Bool) (n : Nat) : (pick p n).length ≤ n := by
  have := List.length_filter_le p (List.range n)
  simpa [pick] using this
theorem neB_nat (a : Nat) : neB (a : Int) 0 = (a != 0) := by
  by_cases h : a = 0
  · subst h; rfl
  · rw [neB_ne (by omega)]; simp [h]
theorem eqB_nat (a : Nat) : eqB (a : Int) 0 = (a == 0) := by
  by_cases h : a = 0
  · subst h; rfl
  · rw [eqB_ne (by omega)]; simp [h]
theorem map_drop_cons {l : List Nat} {i k : Nat} {suf : List Nat} (h : l.drop i = k :: suf) : (l.map Int.ofNat).drop i = (k : Int) :: suf.map Int.ofNat := by
  rw [← List.map_drop, h]; rfl
theorem drop_pre {pre suf l : List Nat} (h : l = pre ++ suf) : l.drop pre.length = suf := by rw [h]; simp
def minT (t : Trust) (s : Nat) : Bool := (nodes s).all fun k => !sat (s - 2 ^ k) t
theorem lst_l1 {t : Trust} (ht : Small t) {s : Nat} (hs : s < 1024) (l : List Nat) (hl : l.length ≤ 10) : ∀ (suf : List Nat) (i : Nat), l.drop i = suf → (∀ k ∈ suf, s.testBit k = true) →
    ref05_least_l1 (s : Int) false (l.map Int.ofNat) ((l.length : Nat) : Int) (i : Int) t.Threshold t.Nodes t.Inner = some (suf.all fun k => !sat (s - 2 ^ k) t)
  | [], i, h, hm => by
    apply ref05_least_l1_le
    rw [ltB_end h]; rfl
  | k :: suf, i, h, hm => by
    have hlt := lt_drop h
    have hk := hm k (by simp)
    have hk10 := bit_lt_of hs hk
    have hmm := map_drop_cons h
    have hp := Nat.ge_two_pow_of_testBit hk
    apply ref05_least_l1_le
    rw [ltB_drop h]
    simp only [cond_true, nth_drop hmm, Bool.not_false]
    rw [chk_true (by omega), shl1 (by omega) (by omega), Int.toNat_natCast, subI_nat hp (by omega), show Trust.mk t.Threshold t.Nodes t.Inner = t by cases t; rfl, satisfied_ok (s := s - 2 ^ k) (Nat.lt_of_le_of_lt (Nat.sub_le _ _) hs) t ht]
    simp only [Option.bind_some, cond_false, List.all_cons]
    cases sat (s - 2 ^ k) t with
    | true => rfl
    | false =>
      simp only [cond_false, Bool.not_false, Bool.true_and]
      rw [next_nat (by omega)]
      exact lst_l1 ht hs l hl suf (i + 1) (drop_next h) (fun j hj => hm j (by simp [hj]))
theorem lst_ok {t : Trust} (ht : Small t) {s : Nat} (hs : s < 1024) : ref05_least t (s : Int) false = some (minT t s) := by
  apply ref05_least_le
  rw [nodes_ok hs]
  simp only [Option.bind_some, List.length_map]
  exact lst_l1 ht hs (nodes s) (nodes_len s) (nodes s) 0 rfl fun k hk => (mem_nodes.1 hk).1
def sliceB (t : Trust) (s : Nat) : Bool := sat s t && minT t s
theorem slices_l1 {t : Trust} (ht : Small t) {r : List Int} (hr : ref01_Least ((pick (sliceB t) 1024).map Int.ofNat) = some r) : ∀ (n i : Nat), i + n = 1024 →
    ref05_Slices_l1 ((pick (sliceB t) i).map Int.ofNat) (i : Int) t.Threshold t.Nodes t.Inner = some (r, 0)
  | 0, i, h => by
    have : i = 1024 := by omega
    subst this
    apply ref05_Slices_l1_le
    rw [leB_false (by omega), hr]; rfl
  | n + 1, i, h => by
    have ih := slices_l1 ht hr n (i + 1) (by omega)
    rw [pick_succ] at ih
    have hle := pick_len (sliceB t) i
    apply ref05_Slices_l1_le
    rw [leB_true (by omega), show Trust.mk t.Threshold t.Nodes t.Inner = t by cases t; rfl, satisfied_ok (s := i) (by omega) t ht, next_nat (by omega)]
    simp only [cond_true, Option.bind_some]
    cases h1 : sat i t with
    | false =>
      have : sliceB t i = false := by simp [sliceB, h1]
      rw [if_neg (by simp [this])] at ih
      exact ih
    | true =>
      simp only [cond_true]
      rw [lst_ok ht (by omega)]
      simp only [Option.bind_some]
      cases h2 : minT t i with
      | false =>
        have : sliceB t i = false := by simp [sliceB, h2]
        rw [if_neg (by simp [this])] at ih
        exact ih
      | true =>
        have : sliceB t i = true := by simp [sliceB, h1, h2]
        rw [if_pos this, List.map_append] at ih
        simp only [cond_true]
        rw [capOk_true (by simp [maxElems]; omega)]
        exact ih
theorem slices_ok {t : Trust} (ht : Small t) (hv : valid t = true) : ∃ out, ref05_Slices t = some (out.map Int.ofNat, 0) ∧ LeastOf (pick (sliceB t) 1024) out := by
  obtain ⟨out, h1, h2⟩ := rleast_ok (pick (sliceB t) 1024) (by have := pick_len (sliceB t) 1024; omega) fun s hs => (mem_pick.1 hs).1
  refine ⟨out, ?_, h2⟩
  apply ref05_Slices_le
  rw [rverr_ok t ht, (verr_valid t).2 hv]
  simp only [Option.bind_some, neB_self, cond_false]
  have := slices_l1 ht h1 1024 0 rfl
  simpa [pick] using this
def meetsB (l : List Nat) (s : Nat) : Bool := l.all fun y => y &&& s != 0
theorem meet_l1 {l : List Nat} {n : Nat} (hn : n ≤ 10) (hl : l.length ≤ 1024) {r : List Int × Int} (hr : ref01_Meeting_l2 (l.map Int.ofNat) (n : Int) [] 0 = some r) : ∀ (suf : List Nat) (i : Nat), l.drop i = suf → (∀ y ∈ suf, y < 2 ^ n) →
    ref01_Meeting_l1 (l.map Int.ofNat) (n : Int) (l.map Int.ofNat) ((l.length : Nat) : Int) (i : Int) = some r
  | [], i, h, hm => by
    apply ref01_Meeting_l1_le
    rw [ltB_end h, List.length_map, ltB_false (by omega)]
    exact hr
  | y :: suf, i, h, hm => by
    have hlt := lt_drop h
    have hy := hm y (by simp)
    have hp : 2 ^ n ≤ 1024 := Nat.pow_le_pow_right (n := 2) (by decide) hn
    apply ref01_Meeting_l1_le
    rw [ltB_drop h]
    simp only [cond_true, nth_drop (map_drop_cons h)]
    rw [ltB_false (by omega), chk_true (by omega), shl1 (by omega) (by omega), Int.toNat_natCast, leB_false (by omega), next_nat (by omega)]
    exact meet_l1 hn hl hr suf (i + 1) (drop_next h) fun z hz => hm z (by simp [hz])
theorem meet_l3 {l : List Nat} (hll : l.length ≤ 1024) (hl : ∀ y ∈ l, y < 1024) {n : Nat} {acc : List Nat} (hacc : acc.length ≤ 1024) {s : Nat} (hs : s < 1024) {r : List Int × Int}
    (hyes : meetsB l s = true → ref01_Meeting_l2 (l.map Int.ofNat) (n : Int) ((acc ++ [s]).map Int.ofNat) ((s + 1 : Nat) : Int) = some r)
    (hno : meetsB l s = false → ref01_Meeting_l2 (l.map Int.ofNat) (n : Int) (acc.map Int.ofNat) ((s + 1 : Nat) : Int) = some r) :
    ∀ (suf pre : List Nat), l = pre ++ suf → ∀ b, b = meetsB pre s → ref01_Meeting_l3 (l.map Int.ofNat) (n : Int) (acc.map Int.ofNat) (s : Int) b (l.map Int.ofNat) ((l.length : Nat) : Int) ((pre.length : Nat) : Int) = some r
  | [], pre, e, b, hb => by
    have hd := drop_pre e
    rw [List.append_nil] at e
    rw [← e] at hb
    apply ref01_Meeting_l3_le
    rw [ltB_end hd]
    simp only [cond_false]
    rw [next_nat (by omega)]
    cases b with
    | true =>
      rw [capOk_true (by simp [maxElems]; omega)]
      have := hyes hb.symm
      rw [List.map_append] at this
      exact this
    | false => exact hno hb.symm
  | y :: suf, pre, e, b, hb => by
    have hd := drop_pre e
    have hlt := lt_drop hd
    have hy := hl y (by rw [e]; simp)
    have hpre : l = (pre ++ [y]) ++ suf := by rw [e]; simp
    have hlen : (pre ++ [y]).length = pre.length + 1 := by simp
    have ih := meet_l3 hll hl hacc hs hyes hno suf (pre ++ [y]) hpre
    rw [hlen] at ih
    apply ref01_Meeting_l3_le
    rw [ltB_drop hd]
    simp only [cond_true, nth_drop (map_drop_cons hd)]
    rw [next_nat (by omega), andI_nat (by omega) (by omega), neB_nat]
    have hm : meetsB (pre ++ [y]) s = (meetsB pre s && (y &&& s != 0)) := by simp [meetsB]
    cases b with
    | true => exact ih _ (by rw [hm, ← hb]; rfl)
    | false => exact ih _ (by rw [hm, ← hb]; rfl)
theorem meet_l2 {l : List Nat} (hll : l.length ≤ 1024) (hl : ∀ y ∈ l, y < 1024) {n : Nat} (hn : n ≤ 10) {r : List Int} (hr : ref01_Least ((pick (meetsB l) (2 ^ n)).map Int.ofNat) = some r) : ∀ (k i : Nat), i + k = 2 ^ n →
    ref01_Meeting_l2 (l.map Int.ofNat) (n : Int) ((pick (meetsB l) i).map Int.ofNat) (i : Int) = some (r, 0)
  | 0, i, h => by
    have : i = 2 ^ n := by omega
    subst this
    have hp : 2 ^ n ≤ 1024 := Nat.pow_le_pow_right (n := 2) (by decide) hn
    apply ref01_Meeting_l2_le
    rw [chk_true (by omega), shl1 (by omega) (by omega), Int.toNat_natCast, ltB_false (by omega), hr]; rfl
  | k + 1, i, h => by
    have hp : 2 ^ n ≤ 1024 := Nat.pow_le_pow_right (n := 2) (by decide) hn
    have ih := meet_l2 hll hl hn hr k (i + 1) (by omega)
    rw [pick_succ] at ih
    have hle := pick_len (meetsB l) i
    apply ref01_Meeting_l2_le
    rw [chk_true (by omega), shl1 (by omega) (by omega), Int.toNat_natCast, ltB_true (by omega), List.length_map]
    refine meet_l3 hll hl (by omega) (by omega) (fun h => ?_) (fun h => ?_) l [] rfl true rfl
    · rw [if_pos h] at ih; exact ih
    · rw [if_neg (by simp [h])] at ih; exact ih
theorem meeting_ok {l : List Nat} (hll : l.length ≤ 1024) {n : Nat} (hn : n ≤ 10) (hl : ∀ y ∈ l, y < 2 ^ n) : ∃ out, ref01_Meeting (l.map Int.ofNat) (n : Int) = some (out.map Int.ofNat, 0) ∧ LeastOf (pick (meetsB l) (2 ^ n)) out := by
  have hp : 2 ^ n ≤ 1024 := Nat.pow_le_pow_right (n := 2) (by decide) hn
  obtain ⟨out, h1, h2⟩ := rleast_ok (pick (meetsB l) (2 ^ n)) (by have := pick_len (meetsB l) (2 ^ n); omega) fun s hs => by have := (mem_pick.1 hs).1; omega
  refine ⟨out, ?_, h2⟩
  apply ref01_Meeting_le
  rw [ltB_false (by omega), ltB_false (by omega), List.length_map]
  refine meet_l1 hn hll ?_ l 0 rfl hl
  have := meet_l2 hll (fun y hy => by have := hl y hy; omega) hn h1 (2 ^ n) 0 (by omega)
  simpa [pick] using this
theorem subsets_l1 {u : Nat} (hu : u < 1024) {r : List Int} (hr : slices_SortFunc___int_int__r__nodeset_Compare ((pick (fun s => subB s u) (u + 1)).map Int.ofNat) = some r) : ∀ (n i : Nat), i + n = u + 1 →
    nodeset_Subsets_l1 (u : Int) ((pick (fun s => subB s u) i).map Int.ofNat) (i : Int) = some r
  | 0, i, h => by
    have : i = u + 1 := by omega
    subst this
    apply nodeset_Subsets_l1_le
    rw [nvalid_ok, okS_nat hu, leB_false (by omega)]
    simp only [Option.bind_some, cond_true, cond_false, hr]
  | n + 1, i, h => by
    have ih := subsets_l1 hu hr n (i + 1) (by omega)
    rw [pick_succ] at ih
    have hle := pick_len (fun s => subB s u) i
    apply nodeset_Subsets_l1_le
    rw [nvalid_ok, okS_nat hu, leB_true (by omega), andNotI_nat (by omega) (by omega), eqB_nat, next_nat (by omega)]
    simp only [Option.bind_some, cond_true]
    cases h1 : subB i u with
    | true =>
      rw [show (ndiff i u == 0) = true from h1, capOk_true (by simp [maxElems]; omega)]
      rw [if_pos h1, List.map_append] at ih
      exact ih
    | false =>
      rw [show (ndiff i u == 0) = false from h1]
      rw [if_neg (by simp [h1])] at ih
      exact ih
theorem sub_le {a b : Nat} (h : Sub a b) : a ≤ b := by
  rw [← sub_iff.1 h]; exact Nat.and_le_right
theorem subsets_ok {u : Nat} (hu : u < 1024) : ∃ zs : List Nat, nodeset_Subsets (u : Int) = some (zs.map Int.ofNat) ∧ (∀ s, s ∈ zs ↔ Sub s u) ∧ zs.length ≤ 1024 := by
  have hlen := pick_len (fun s => subB s u) (u + 1)
  obtain ⟨zs, h1, h2, _⟩ := sortS_ok (pick (fun s => subB s u) (u + 1)) (by omega) fun s hs => by have := (mem_pick.1 hs).1; omega
  refine ⟨zs, ?_, fun s => ?_, by rw [h2.length_eq]; omega⟩
  · apply nodeset_Subsets_le
    have := subsets_l1 hu h1 (u + 1) 0 (by omega)
    simpa [pick] using this
  · rw [h2.mem_iff, mem_pick, subB_iff]
    exact ⟨fun h => h.2, fun h => ⟨by have := sub_le h; omega, h⟩⟩
theorem mins_of {l l' : List Nat} (h1 : ∀ s ∈ l, s ∈ l') (h2 : ∀ s ∈ l', ∃ t ∈ l, Sub t s) (s : Nat) : Mins l s ↔ Mins l' s := by
  constructor
  · rintro ⟨ha, hb⟩
    refine ⟨h1 s ha, fun t ht hts => ?_⟩
    obtain ⟨u, hu, hut⟩ := h2 t ht
    have := hb u hu (hut.trans hts)
    subst this
    exact Sub.antisymm hts hut
  · rintro ⟨ha, hb⟩
    obtain ⟨u, hu, hus⟩ := h2 s ha
    have := hb u (h1 u hu) hus
    subst this
    exact ⟨hu, fun t ht => hb t (h1 t ht)⟩
theorem LeastOf.of {l l' out : List Nat} (h : LeastOf l out) (hm : ∀ s, Mins l s ↔ Mins l' s) : LeastOf l' out := ⟨h.1, fun s => by rw [h.2, hm]⟩
theorem usesN_has : ∀ {l : List Int} {k : Int}, k ∈ l → inR k = true → has (usesN l) k = true
  | [], k, h, _ => by cases h
  | y :: r, k, h, hk => by
    have hk' := hk
    simp only [inR, Bool.and_eq_true, decide_eq_true_eq] at hk'
    simp only [usesN]
    rw [has_union]
    rcases List.mem_cons.1 h with rfl | h
    · have : has (2 ^ k.toNat) k = true := by simp [has, hk'.1, hk'.2]
      simp [this, hk, hk', bit]
    · rw [usesN_has h hk]; simp
theorem usesL_sub : ∀ {l : List Trust} {x : Trust}, x ∈ l → Sub (uses x) (usesL l)
  | [], x, h => by cases h
  | y :: r, x, h => by
    simp only [usesL]
    rcases List.mem_cons.1 h with rfl | h
    · exact Sub.left
    · exact (usesL_sub h).trans Sub.right
theorem sat_uses {s z : Nat} : ∀ t : Trust, (∀ k : Int, has (uses t) k = true → has s k = has z k) → sat s t = sat z t := by
  apply Trust.ind
  intro t ih h
  rw [sat_eq, sat_eq]
  have h1 : cnt s t.Nodes = cnt z t.Nodes := by
    unfold cnt
    apply List.countP_congr
    intro k hk
    by_cases hr : inR k = true
    · have := usesN_has hk hr
      rw [h k (by rw [uses_eq, has_union, this]; rfl)]
    · have hn := not_inR hr
      have : ∀ w, has w k = false := fun w => by
        by_cases h0 : 0 ≤ k
        · have : ¬ k < 10 := fun h' => hn ⟨h0, h'⟩
          simp [has, this]
        · simp [has, h0]
      rw [this, this]
  have h2 : ∀ l : List Trust, (∀ x ∈ l, sat s x = sat z x) → sats s l = sats z l := by
    intro l
    induction l with
    | nil => intro _; rfl
    | cons y r ihr =>
      intro hl
      simp only [sats]
      rw [hl y (by simp), ihr fun x hx => hl x (by simp [hx])]
  rw [h1, h2 t.Inner fun x hx => ih x hx fun k hk => h k (by
    have h3 : Sub (uses x) (uses t) := by rw [uses_eq t]; exact (usesL_sub hx).trans Sub.right
    exact has_sub h3 k hk)]
theorem blk_uses (c : Config) (v s : Nat) : blk c v (s &&& uses (tr c v)) = blk c v s := by
  simp only [blk]
  congr 2
  apply sat_uses
  intro k hk
  obtain ⟨n, rfl, hn, hb⟩ := has_of hk
  rw [has_nat hn, has_nat hn]
  simp [Nat.testBit_or, testBit_ndiff, Nat.testBit_and, hb]
theorem bleast_l1 {c : Config} (hc : SmallC c) (v : Nat) {zs : List Nat} (hz : ∀ s ∈ zs, s < 1024) (hzl : zs.length ≤ 1024) {r : List Int} (hr : nodeset_Least ((zs.filter (blk c v)).map Int.ofNat) = some r) : ∀ (suf pre : List Nat), zs = pre ++ suf →
    blocking_Least_l1 (v : Int) ((pre.filter (blk c v)).map Int.ofNat) (zs.map Int.ofNat) ((zs.length : Nat) : Int) ((pre.length : Nat) : Int) c.Members = some (r, 0)
  | [], pre, e => by
    have hd := drop_pre e
    rw [List.append_nil] at e
    apply blocking_Least_l1_le
    rw [ltB_end hd, ← e, hr]; rfl
  | y :: suf, pre, e => by
    have hd := drop_pre e
    have hlt := lt_drop hd
    have hy := hz y (by rw [e]; simp)
    have ih := bleast_l1 hc v hz hzl hr suf (pre ++ [y]) (by rw [e]; simp)
    rw [show (pre ++ [y]).length = pre.length + 1 by simp, List.filter_append] at ih
    have hfl := List.length_filter_le (blk c v) pre
    apply blocking_Least_l1_le
    rw [ltB_drop hd]
    simp only [cond_true, nth_drop (map_drop_cons hd)]
    rw [show Config.mk c.Members = c from rfl, blocks_nat hc hy, next_nat (by omega)]
    simp only [Option.bind_some]
    cases hb : blk c v y with
    | true =>
      rw [capOk_true (by simp [maxElems]; omega)]
      rw [show List.filter (blk c v) [y] = [y] by simp [hb], List.map_append] at ih
      exact ih
    | false =>
      rw [show List.filter (blk c v) [y] = [] by simp [hb], List.append_nil] at ih
      exact ih
theorem bleast_ok {c : Config} (hc : SmallC c) (he : cerr c = 0) {v : Nat} (hv : (decl c).testBit v = true) : ∃ out, blocking_Least c (v : Int) = some (out.map Int.ofNat, 0) ∧ LeastOf (pick (blk c v) 1024) out := by
  obtain ⟨m, h1, h2, h3⟩ := member_of hv
  have hlt : v < c.Members.length := (List.getElem?_eq_some_iff.1 h1).1
  have hms := hc.2 m (List.mem_of_getElem? h1)
  have hul := uses_lt m.Trust
  have hcl := (cerr_zero.1 he).1
  obtain ⟨zs, g1, g2, g3⟩ := subsets_ok hul
  have hz : ∀ s ∈ zs, s < 1024 := fun s hs => ((g2 s).1 hs).lt hul
  have hfl := List.length_filter_le (blk c v) zs
  obtain ⟨out, k1, k2⟩ := nleast_ok (zs.filter (blk c v)) (by omega) fun s hs => hz s (List.mem_filter.1 hs).1
  refine ⟨out, ?_, k2.of (mins_of (fun s hs => ?_) fun s hs => ?_)⟩
  · apply blocking_Least_le
    rw [pcerr_ok hc, he]
    simp only [Option.bind_some, neB_self, cond_false]
    rw [ltB_false (by omega), leB_false (by omega), nth_get (by omega) (by simpa using h1), h3]
    simp only [cond_false, Bool.not_true]
    rw [nth_get (by omega) (by simpa using h1), puses_ok m.Trust hms]
    simp only [Option.bind_some]
    rw [g1]
    simp only [Option.bind_some, List.length_map]
    exact bleast_l1 hc v hz g3 k1 zs [] rfl
  · have := List.mem_filter.1 hs
    exact mem_pick.2 ⟨hz s this.1, this.2⟩
  · have := mem_pick.1 hs
    refine ⟨s &&& uses (tr c v), List.mem_filter.2 ⟨(g2 _).2 (by rw [← h2]; exact Sub.and_right _ _), by rw [blk_uses]; exact this.2⟩, Sub.and_left _ _⟩
theorem exists_min (t : Trust) : ∀ (n X : Nat), X < n → sat X t = true → ∃ y, Sub y X ∧ sat y t = true ∧ ∀ z, Sub z y → sat z t = true → z = y
  | 0, X, h, _ => by omega
  | n + 1, X, h, hs => by
    by_cases hz : ∃ z, Sub z X ∧ sat z t = true ∧ z ≠ X
    · obtain ⟨z, h1, h2, h3⟩ := hz
      have := sub_le h1
      obtain ⟨y, g1, g2, g3⟩ := exists_min t n z (by omega) h2
      exact ⟨y, g1.trans h1, g2, g3⟩
    · refine ⟨X, Sub.refl _, hs, fun z h1 h2 => ?_⟩
      by_cases he : z = X
      · exact he
      · exact absurd ⟨z, h1, h2, he⟩ hz
theorem min_slice {t : Trust} {y : Nat} (hy : y < 1024) (hs : sat y t = true) (hm : ∀ z, Sub z y → sat z t = true → z = y) : Mins (pick (sliceB t) 1024) y := by
  refine ⟨mem_pick.2 ⟨hy, ?_⟩, fun z hz hzy => hm z hzy ?_⟩
  · simp only [sliceB, hs, Bool.true_and, minT, List.all_eq_true]
    intro k hk
    have hb := (mem_nodes.1 hk).1
    obtain ⟨h1, h2⟩ := sub_pow hb
    cases hq : sat (y - 2 ^ k) t with
    | false => rfl
    | true => have := hm _ h2 hq; omega
  · have := (mem_pick.1 hz).2
    simp only [sliceB, Bool.and_eq_true] at this
    exact this.1
theorem slice_sat {t : Trust} {y : Nat} (h : Mins (pick (sliceB t) 1024) y) : y < 1024 ∧ sat y t = true := by
  have := mem_pick.1 h.1
  simp only [sliceB, Bool.and_eq_true] at this
  exact ⟨this.1, this.2.1⟩
theorem slice_uses {t : Trust} {y : Nat} (h : Mins (pick (sliceB t) 1024) y) : Sub y (uses t) := by
  intro k hk
  have hy := (slice_sat h).1
  have hk10 := bit_lt_of hy hk
  have hmin : minT t y = true := by
    have := (mem_pick.1 h.1).2
    simp only [sliceB, Bool.and_eq_true] at this
    exact this.2
  cases hu : (uses t).testBit k with
  | true => rfl
  | false =>
    have h1 := List.all_eq_true.1 hmin k (mem_nodes.2 ⟨hk, hk10⟩)
    have h2 : sat (y - 2 ^ k) t = sat y t := by
      apply sat_uses
      intro j hj
      obtain ⟨n, rfl, hn, hb⟩ := has_of hj
      have hne : n ≠ k := fun e => by subst e; rw [hu] at hb; cases hb
      rw [has_nat hn, has_nat hn, testBit_sub_pow hk]
      simp [hne]
    rw [h2, (slice_sat h).2] at h1
    cases h1
theorem meets_blk {c : Config} {v : Nat} (hv : (decl c).testBit v = true) {out : List Nat} (ho : LeastOf (pick (sliceB (tr c v)) 1024) out) {s : Nat} : meetsB (out.map fun y => ndiff y (2 ^ v)) s = blk c v s := by
  have hv10 := bit_lt_of (decl_lt c) hv
  have hX : ndiff 1023 s ||| 2 ^ v < 1024 := or_lt (ndiff_lt' (by decide)) (pow_lt' hv10)
  rw [Bool.eq_iff_iff]
  simp only [meetsB, List.all_map, List.all_eq_true, Function.comp, blk, hv, Bool.true_and, Bool.not_eq_true']
  constructor
  · intro h
    cases hq : sat (ndiff 1023 s ||| 2 ^ v) (tr c v) with
    | false => rfl
    | true =>
      obtain ⟨y, g1, g2, g3⟩ := exists_min (tr c v) _ _ (Nat.lt_succ_self _) hq
      have := h y ((ho.2 y).2 (min_slice (g1.lt hX) g2 g3))
      rw [bne_iff_ne] at this
      obtain ⟨i, hi⟩ := bne_zero this
      simp only [Nat.testBit_and, testBit_ndiff, testBit_pow, Bool.and_eq_true, Bool.not_eq_true', decide_eq_false_iff_not] at hi
      have h4 := g1 i hi.1.1
      simp [Nat.testBit_or, testBit_ndiff, testBit_pow, hi.1.2, hi.2] at h4
  · intro h y hy
    have hm := (ho.2 y).1 hy
    rw [bne_iff_ne]
    intro h0
    have : sat (ndiff 1023 s ||| 2 ^ v) (tr c v) = true := by
      refine sat_mono (has_sub (fun i hi => ?_)) (tr c v) (slice_sat hm).2
      have h10 := bit_lt_of (slice_sat hm).1 hi
      by_cases hiv : v = i
      · simp [Nat.testBit_or, testBit_pow, hiv]
      · have h5 : (ndiff y (2 ^ v) &&& s).testBit i = false := by rw [h0]; simp
        simp only [Nat.testBit_and, testBit_ndiff, testBit_pow, hi, hiv, decide_false, Bool.not_false, Bool.and_true, Bool.true_and] at h5
        simp [Nat.testBit_or, testBit_ndiff, testBit_all, h10, h5]
    rw [h] at this
    cases this
end Go.Proofs.Ytfailfoncbbgjaa
