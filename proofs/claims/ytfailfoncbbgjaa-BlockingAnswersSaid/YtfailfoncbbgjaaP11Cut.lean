/- Slices of a trust, sets that meet a list, the least sets that block. -/
import Derived.Test.YtfailfoncbbgjaaP11Errs
import Derived.Test.YtfailfoncbbgjaaP11Block
import Derived.Test.YtfailfoncbbgjaaP11Least
namespace Go.Proofs.Ytfailfoncbbgjaa
open Go Go.Ab Go.Sort
theorem mkints_l1 {a b : List Int} (hl : a.length < 1152921504606846976) (hab : a.length = b.length) : ∀ (n i : Nat), i + n = a.length →
    ∃ r, mk_Ints_l1 a b ((a.length : Nat) : Int) (i : Int) = some r ∧ (r = true ↔ a.drop i = b.drop i)
  | 0, i, h => by
    refine ⟨true, ?_, by simp [List.drop_eq_nil_of_le (show a.length ≤ i by omega), List.drop_eq_nil_of_le (show b.length ≤ i by omega)]⟩
    apply mk_Ints_l1_le
    rw [ltB_false (by omega)]
    rfl
  | n + 1, i, h => by
    have h1 : i < a.length := by omega
    have h2 : i < b.length := by omega
    obtain ⟨r, e1, e2⟩ := mkints_l1 hl hab n (i + 1) (by omega)
    rw [drop_iff h1 h2]
    by_cases hx : a[i] = b[i]
    · refine ⟨r, ?_, by rw [e2]; simp [hx]⟩
      apply mk_Ints_l1_le
      rw [ltB_true (by omega), nth_get (by omega) (show a[((i : Nat) : Int).toNat]? = some a[i] by simp), nth_get (by omega) (show b[((i : Nat) : Int).toNat]? = some b[i] by simp), hx, neB_self, next_nat (by omega)]
      simp only [cond_true, cond_false]
      exact e1
    · refine ⟨false, ?_, by simp [hx]⟩
      apply mk_Ints_l1_le
      rw [ltB_true (by omega), nth_get (by omega) (show a[((i : Nat) : Int).toNat]? = some a[i] by simp), nth_get (by omega) (show b[((i : Nat) : Int).toNat]? = some b[i] by simp), neB_ne hx]
      rfl
theorem mkints {a b : List Int} (hl : a.length < 1152921504606846976) : ∃ r, mk_Ints a b = some r ∧ (r = true ↔ a = b) := by
  by_cases hab : a.length = b.length
  · obtain ⟨r, e1, e2⟩ := mkints_l1 hl hab a.length 0 (by omega)
    refine ⟨r, ?_, by simpa using e2⟩
    apply mk_Ints_le
    rw [← hab, neB_self]
    exact e1
  · refine ⟨false, ?_, by simp; rintro rfl; exact hab rfl⟩
    apply mk_Ints_le
    rw [neB_ne (by omega)]
    rfl
theorem mkints_dec {a b : List Int} (hl : a.length < 1152921504606846976) : mk_Ints a b = some (decide (a = b)) := by
  obtain ⟨r, h1, h2⟩ := mkints (b := b) hl
  rw [h1]
  congr 1
  rw [Bool.eq_iff_iff, h2, decide_eq_true_eq]
def pick (p : Nat → Bool) (n : Nat) : List Nat := (List.range n).filter p
theorem pick_succ (p : Nat → Bool) (n : Nat) : pick p (n + 1) = if p n = true then pick p n ++ [n] else pick p n := by
  unfold pick
  rw [List.range_succ, List.filter_append]
  by_cases h : p n = true <;> simp [h]
theorem mem_pick {p : Nat → Bool} {n s : Nat} : s ∈ pick p n ↔ s < n ∧ p s = true := by simp [pick]
theorem pick_len (p : Nat → Bool) (n : Nat) : (pick p n).length ≤ n := by
  have := List.length_filter_le p (List.range n)
  simpa [pick] using this
theorem eqB_nat (a : Nat) : eqB (a : Int) 0 = (a == 0) := by
  by_cases h : a = 0
  · subst h; rfl
  · rw [eqB_ne (by omega)]; simp [h]
theorem map_drop_cons {l : List Nat} {i k : Nat} {suf : List Nat} (h : l.drop i = k :: suf) : (l.map Int.ofNat).drop i = (k : Int) :: suf.map Int.ofNat := by
  rw [← List.map_drop, h]; rfl
theorem drop_pre {pre suf l : List Nat} (h : l = pre ++ suf) : l.drop pre.length = suf := by rw [h]; simp
theorem subsets_l1 {u : Nat} (hu : u < 1024) {r : List Int} (hr : slices_SortFunc___int_int__r__nodeset_Compare ((pick (fun s => subB s u) (u + 1)).map Int.ofNat) = some r) : ∀ (n i : Nat), i + n = u + 1 →
    nodeset_Subsets_l1 (u : Int) ((pick (fun s => subB s u) i).map Int.ofNat) (i : Int) = some r
  | 0, i, h => by
    have : i = u + 1 := by omega
    subst this
    apply nodeset_Subsets_l1_le
    rw [nvalid_ok, okS_nat hu, leB_false (by omega)]
    simp only [Option.bind_some, cond_true, cond_false, hr]
  | n + 1, i, h => by
    have ih := subsets_l1 hu hr n (i + 1) (by omega)
    rw [pick_succ] at ih
    have hle := pick_len (fun s => subB s u) i
    apply nodeset_Subsets_l1_le
    rw [nvalid_ok, okS_nat hu, leB_true (by omega), andNotI_nat (by omega) (by omega), eqB_nat, next_nat (by omega)]
    simp only [Option.bind_some, cond_true]
    cases h1 : subB i u with
    | true =>
      rw [show (ndiff i u == 0) = true from h1, capOk_true (by simp [maxElems]; omega)]
      rw [if_pos h1, List.map_append] at ih
      exact ih
    | false =>
      rw [show (ndiff i u == 0) = false from h1]
      rw [if_neg (by simp [h1])] at ih
      exact ih
theorem sub_le {a b : Nat} (h : Sub a b) : a ≤ b := by
  rw [← sub_iff.1 h]; exact Nat.and_le_right
theorem subsets_ok {u : Nat} (hu : u < 1024) : ∃ zs : List Nat, nodeset_Subsets (u : Int) = some (zs.map Int.ofNat) ∧ (∀ s, s ∈ zs ↔ Sub s u) ∧ zs.length ≤ 1024 := by
  have hlen := pick_len (fun s => subB s u) (u + 1)
  obtain ⟨zs, h1, h2, _⟩ := sortS_ok (pick (fun s => subB s u) (u + 1)) (by omega) fun s hs => by have := (mem_pick.1 hs).1; omega
  refine ⟨zs, ?_, fun s => ?_, by rw [h2.length_eq]; omega⟩
  · apply nodeset_Subsets_le
    have := subsets_l1 hu h1 (u + 1) 0 (by omega)
    simpa [pick] using this
  · rw [h2.mem_iff, mem_pick, subB_iff]
    exact ⟨fun h => h.2, fun h => ⟨by have := sub_le h; omega, h⟩⟩
theorem mins_of {l l' : List Nat} (h1 : ∀ s ∈ l, s ∈ l') (h2 : ∀ s ∈ l', ∃ t ∈ l, Sub t s) (s : Nat) : Mins l s ↔ Mins l' s := by
  constructor
  · rintro ⟨ha, hb⟩
    refine ⟨h1 s ha, fun t ht hts => ?_⟩
    obtain ⟨u, hu, hut⟩ := h2 t ht
    have := hb u hu (hut.trans hts)
    subst this
    exact Sub.antisymm hts hut
  · rintro ⟨ha, hb⟩
    obtain ⟨u, hu, hus⟩ := h2 s ha
    have := hb u (h1 u hu) hus
    subst this
    exact ⟨hu, fun t ht => hb t (h1 t ht)⟩
theorem LeastOf.of {l l' out : List Nat} (h : LeastOf l out) (hm : ∀ s, Mins l s ↔ Mins l' s) : LeastOf l' out := ⟨h.1, fun s => by rw [h.2, hm]⟩
theorem usesN_has : ∀ {l : List Int} {k : Int}, k ∈ l → inR k = true → has (usesN l) k = true
  | [], k, h, _ => by cases h
  | y :: r, k, h, hk => by
    have hk' := hk
    simp only [inR, Bool.and_eq_true, decide_eq_true_eq] at hk'
    simp only [usesN]
    rw [has_union]
    rcases List.mem_cons.1 h with rfl | h
    · have : has (2 ^ k.toNat) k = true := by simp [has, hk'.1, hk'.2]
      simp [this, hk, bit]
    · rw [usesN_has h hk]; simp
theorem usesL_sub : ∀ {l : List Trust} {x : Trust}, x ∈ l → Sub (uses x) (usesL l)
  | [], x, h => by cases h
  | y :: r, x, h => by
    simp only [usesL]
    rcases List.mem_cons.1 h with rfl | h
    · exact Sub.left
    · exact (usesL_sub h).trans Sub.right
theorem sat_uses {s z : Nat} : ∀ t : Trust, (∀ k : Int, has (uses t) k = true → has s k = has z k) → sat s t = sat z t := by
  apply Trust.ind
  intro t ih h
  rw [sat_eq, sat_eq]
  have h1 : cnt s t.Nodes = cnt z t.Nodes := by
    unfold cnt
    apply List.countP_congr
    intro k hk
    by_cases hr : inR k = true
    · have := usesN_has hk hr
      rw [h k (by rw [uses_eq, has_union, this]; rfl)]
    · have hn := not_inR hr
      have : ∀ w, has w k = false := fun w => by
        by_cases h0 : 0 ≤ k
        · have : ¬ k < 10 := fun h' => hn ⟨h0, h'⟩
          simp [has, this]
        · simp [has, h0]
      rw [this, this]
  have h2 : ∀ l : List Trust, (∀ x ∈ l, sat s x = sat z x) → sats s l = sats z l := by
    intro l
    induction l with
    | nil => intro _; rfl
    | cons y r ihr =>
      intro hl
      simp only [sats]
      rw [hl y (by simp), ihr fun x hx => hl x (by simp [hx])]
  rw [h1, h2 t.Inner fun x hx => ih x hx fun k hk => h k (by
    have h3 : Sub (uses x) (uses t) := by rw [uses_eq t]; exact (usesL_sub hx).trans Sub.right
    exact has_sub h3 k hk)]
theorem blk_uses (c : Config) (v s : Nat) : blk c v (s &&& uses (tr c v)) = blk c v s := by
  simp only [blk]
  congr 2
  apply sat_uses
  intro k hk
  obtain ⟨n, rfl, hn, hb⟩ := has_of hk
  rw [has_nat hn, has_nat hn]
  simp [Nat.testBit_or, testBit_ndiff, Nat.testBit_and, hb]
theorem bleast_l1 {c : Config} (hc : SmallC c) (v : Nat) {zs : List Nat} (hz : ∀ s ∈ zs, s < 1024) (hzl : zs.length ≤ 1024) {r : List Int} (hr : nodeset_Least ((zs.filter (blk c v)).map Int.ofNat) = some r) : ∀ (suf pre : List Nat), zs = pre ++ suf →
    blocking_Least_l1 (v : Int) ((pre.filter (blk c v)).map Int.ofNat) (zs.map Int.ofNat) ((zs.length : Nat) : Int) ((pre.length : Nat) : Int) c.Members = some (r, 0)
  | [], pre, e => by
    have hd := drop_pre e
    rw [List.append_nil] at e
    apply blocking_Least_l1_le
    rw [ltB_end hd, ← e, hr]; rfl
  | y :: suf, pre, e => by
    have hd := drop_pre e
    have hlt := lt_drop hd
    have hy := hz y (by rw [e]; simp)
    have ih := bleast_l1 hc v hz hzl hr suf (pre ++ [y]) (by rw [e]; simp)
    rw [show (pre ++ [y]).length = pre.length + 1 by simp, List.filter_append] at ih
    have hfl := List.length_filter_le (blk c v) pre
    apply blocking_Least_l1_le
    rw [ltB_drop hd]
    simp only [cond_true, nth_drop (map_drop_cons hd)]
    rw [show Config.mk c.Members = c from rfl, blocks_nat hc hy, next_nat (by omega)]
    simp only [Option.bind_some]
    cases hb : blk c v y with
    | true =>
      rw [capOk_true (by simp [maxElems]; omega)]
      rw [show List.filter (blk c v) [y] = [y] by simp [hb], List.map_append] at ih
      exact ih
    | false =>
      rw [show List.filter (blk c v) [y] = [] by simp [hb], List.append_nil] at ih
      exact ih
theorem bleast_ok {c : Config} (hc : SmallC c) (he : cerr c = 0) {v : Nat} (hv : (decl c).testBit v = true) : ∃ out, blocking_Least c (v : Int) = some (out.map Int.ofNat, 0) ∧ LeastOf (pick (blk c v) 1024) out := by
  obtain ⟨m, h1, h2, h3⟩ := member_of hv
  have hlt : v < c.Members.length := (List.getElem?_eq_some_iff.1 h1).1
  have hms := hc.2 m (List.mem_of_getElem? h1)
  have hul := uses_lt m.Trust
  have hcl := (cerr_zero.1 he).1
  obtain ⟨zs, g1, g2, g3⟩ := subsets_ok hul
  have hz : ∀ s ∈ zs, s < 1024 := fun s hs => ((g2 s).1 hs).lt hul
  have hfl := List.length_filter_le (blk c v) zs
  obtain ⟨out, k1, k2⟩ := nleast_ok (zs.filter (blk c v)) (by omega) fun s hs => hz s (List.mem_filter.1 hs).1
  refine ⟨out, ?_, k2.of (mins_of (fun s hs => ?_) fun s hs => ?_)⟩
  · apply blocking_Least_le
    rw [pcerr_ok hc, he]
    simp only [Option.bind_some, neB_self, cond_false]
    rw [ltB_false (by omega), leB_false (by omega), nth_get (by omega) (by simpa using h1), h3]
    simp only [cond_false, Bool.not_true]
    rw [nth_get (by omega) (by simpa using h1), puses_ok m.Trust hms]
    simp only [Option.bind_some]
    rw [g1]
    simp only [Option.bind_some, List.length_map]
    exact bleast_l1 hc v hz g3 k1 zs [] rfl
  · have := List.mem_filter.1 hs
    exact mem_pick.2 ⟨hz s this.1, this.2⟩
  · have := mem_pick.1 hs
    refine ⟨s &&& uses (tr c v), List.mem_filter.2 ⟨(g2 _).2 (by rw [← h2]; exact Sub.and_right _ _), by rw [blk_uses]; exact this.2⟩, Sub.and_left _ _⟩
end Go.Proofs.Ytfailfoncbbgjaa
