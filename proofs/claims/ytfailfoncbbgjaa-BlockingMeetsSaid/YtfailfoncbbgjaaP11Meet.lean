/- BlockingMeets: the law, on the machine. -/
import Derived.Test.YtfailfoncbbgjaaP11Cut
import Derived.Test.YtfailfoncbbgjaaP11Awake
namespace Go.Proofs.Ytfailfoncbbgjaa
open Go Go.Ab
theorem meets_l1 {v : Nat} (hv : v < 10) {l : List Nat} (hl : ∀ y ∈ l, y < 1024) (hll : l.length ≤ 1024) {tl : List Int} {ti : Int} {ms : List Member} {r : Bool}
    (hr : law11_BlockingMeets_l2 (v : Int) ((l.map fun y => ndiff y (2 ^ v)).map Int.ofNat) 0 tl ti ms = some r) : ∀ (suf pre : List Nat), l = pre ++ suf →
    law11_BlockingMeets_l1 (v : Int) ((pre.map fun y => ndiff y (2 ^ v)).map Int.ofNat) (l.map Int.ofNat) ((l.length : Nat) : Int) ((pre.length : Nat) : Int) tl ti ms = some r
  | [], pre, e => by
    have hd := drop_pre e
    rw [List.append_nil] at e
    apply law11_BlockingMeets_l1_le
    rw [ltB_end hd, ← e]
    exact hr
  | y :: suf, pre, e => by
    have hd := drop_pre e
    have hlt := lt_drop hd
    have hy := hl y (by rw [e]; simp)
    have hp := pow_lt' hv
    have ih := meets_l1 hv hl hll hr suf (pre ++ [y]) (by rw [e]; simp)
    rw [show (pre ++ [y]).length = pre.length + 1 by simp, List.map_append, List.map_append] at ih
    apply law11_BlockingMeets_l1_le
    rw [ltB_drop hd]
    simp only [cond_true, nth_drop (map_drop_cons hd)]
    rw [chk_true (by omega), shl1 (by omega) (by omega), Int.toNat_natCast, andNotI_nat (by omega) (by omega), next_nat (by omega), capOk_true (by simp [maxElems]; omega)]
    exact ih
theorem meets_l3 {c : Config} (hc : SmallC c) {v : Nat} (hv : v < 10) {l : List Nat} (hl : ∀ y ∈ l, y < 1024) (hll : l.length ≤ 1024) (hb : ∀ s, meetsB l s = blk c v s) {x : Nat} (hx : x < 1024) {i : Int} {tl : List Int} {ti : Int} {r : Bool}
    (hr : law11_BlockingMeets_l4 (v : Int) (l.map Int.ofNat) (addI .i64 i 1) tl ti c.Members = some r) : ∀ (suf pre : List Nat), l = pre ++ suf → ∀ b, b = meetsB pre x →
    law11_BlockingMeets_l3 (v : Int) (l.map Int.ofNat) i (x : Int) b (l.map Int.ofNat) ((l.length : Nat) : Int) ((pre.length : Nat) : Int) tl ti c.Members = some r
  | [], pre, e, b, hb' => by
    have hd := drop_pre e
    rw [List.append_nil] at e
    rw [← e, hb] at hb'
    have hp := pow_lt' hv
    apply law11_BlockingMeets_l3_le
    rw [ltB_end hd, show Config.mk c.Members = c from rfl, blocks_nat hc hx]
    simp only [cond_false, Option.bind_some, hb', beq_self_eq_true, Bool.not_true]
    rw [chk_true (by omega), shl1 (by omega) (by omega), Int.toNat_natCast, orI_nat (by omega) (by omega), blocks_nat hc (or_lt hx hp), blk_self]
    simp only [Option.bind_some, beq_self_eq_true, Bool.not_true, cond_false]
    exact hr
  | y :: suf, pre, e, b, hb' => by
    have hd := drop_pre e
    have hlt := lt_drop hd
    have hy := hl y (by rw [e]; simp)
    have hm : meetsB (pre ++ [y]) x = (meetsB pre x && (y &&& x != 0)) := by simp [meetsB]
    have ih := meets_l3 hc hv hl hll hb hx hr suf (pre ++ [y]) (by rw [e]; simp)
    rw [show (pre ++ [y]).length = pre.length + 1 by simp] at ih
    apply law11_BlockingMeets_l3_le
    rw [ltB_drop hd]
    simp only [cond_true, nth_drop (map_drop_cons hd)]
    cases b with
    | true =>
      simp only [cond_true]
      rw [andI_nat (by omega) (by omega), neB_nat, next_nat (by omega)]
      exact ih _ (by rw [hm, ← hb', Nat.and_comm]; rfl)
    | false =>
      simp only [cond_false]
      rw [next_nat (by omega)]
      exact ih _ (by rw [hm, ← hb']; rfl)
theorem meets_l2 {c : Config} (hc : SmallC c) {v : Nat} (hv : v < 10) {l : List Nat} (hl : ∀ y ∈ l, y < 1024) (hll : l.length ≤ 1024) (hb : ∀ s, meetsB l s = blk c v s) {out out' : List Int} (he : out' = out) (hlen : out.length < 1152921504606846976)
    (h1 : ref01_Meeting (l.map Int.ofNat) ((c.Members.length : Nat) : Int) = some (out, 0)) (h2 : blocking_Least c (v : Int) = some (out', 0)) {tl : List Int} : ∀ (n i : Nat) (ti : Int), i + n = 20 → TapeOk tl ti →
    law11_BlockingMeets_l2 (v : Int) (l.map Int.ofNat) (i : Int) tl ti c.Members = some true ∧ law11_BlockingMeets_l4 (v : Int) (l.map Int.ofNat) (i : Int) tl ti c.Members = some true
  | 0, i, ti, h, ht => by
    have : i = 20 := by omega
    subst this
    subst he
    constructor
    · apply law11_BlockingMeets_l2_le
      rw [ltB_false (by omega), h1, show Config.mk c.Members = c from rfl, h2]
      simp only [cond_false, Option.bind_some, eqB_self, cond_true]
      rw [mkints_dec hlen, awake_true, decide_eq_true rfl]
      rfl
    · apply law11_BlockingMeets_l4_le
      rw [ltB_false (by omega), h1, show Config.mk c.Members = c from rfl, h2]
      simp only [cond_false, Option.bind_some, eqB_self, cond_true]
      rw [mkints_dec hlen, awake_true, decide_eq_true rfl]
      rfl
  | n + 1, i, ti, h, ht => by
    obtain ⟨x0, j, g1, g2, g3, g4⟩ := N_ok (n := 128) (by decide) (by decide) ht
    obtain ⟨x, rfl⟩ := Int.eq_ofNat_of_zero_le g2
    have ih := (meets_l2 hc hv hl hll hb he hlen h1 h2 n (i + 1) j (by omega) g4).2
    have key := meets_l3 hc hv hl hll hb (x := x) (by omega) (i := (i : Int)) (r := true) (by rw [next_nat (by omega)]; exact ih) l [] rfl true rfl
    constructor
    · apply law11_BlockingMeets_l2_le
      rw [ltB_true (by omega)]
      simp only [cond_true, g1, Option.bind_some, List.length_map]
      exact key
    · apply law11_BlockingMeets_l4_le
      rw [ltB_true (by omega)]
      simp only [cond_true, g1, Option.bind_some, List.length_map]
      exact key
theorem meets_law (t : List Int) : law11_BlockingMeets t = some true := by
  apply law11_BlockingMeets_le
  obtain ⟨l, e1, t1⟩ := New_ok t
  obtain ⟨c, j1, e2, c1, t2⟩ := Config_ok (n := 7) (by decide) (by decide) t1
  have hp := c1.pos
  have hle := c1.le
  obtain ⟨v0, j2, e3, v1, v2, t3⟩ := N_ok (n := ((c.Members.length : Nat) : Int)) (by omega) (by omega) t2
  obtain ⟨v, rfl⟩ := Int.eq_ofNat_of_zero_le v1
  have hv : v < c.Members.length := by omega
  have hc := c1.smallC (by decide)
  rw [e1]
  simp only [Option.bind_some]
  rw [show (7 : Int) = ((7 : Nat) : Int) from rfl, e2]
  simp only [Option.bind_some]
  rw [e3]
  simp only [Option.bind_some]
  have hg : c.Members[v]? = some c.Members[v] := List.getElem?_eq_getElem hv
  rw [nth_get (y := c.Members[v]) (by omega) (by rw [Int.toNat_natCast]; exact hg), nth_get (y := c.Members[v]) (by omega) (by rw [Int.toNat_natCast]; exact hg)]
  cases hd : (c.Members[v]).Declared with
  | false => rw [awake_true]; rfl
  | true =>
    simp only [Bool.not_true, cond_false]
    have hdv : (decl c).testBit v = true := testBit_decl.2 ⟨by omega, _, hg, hd⟩
    have htr : tr c v = (c.Members[v]).Trust := by simp [tr, hg]
    have hgood := c1.good _ (List.mem_of_getElem? hg) hd
    have hsm := hc.2 _ (List.mem_of_getElem? hg)
    obtain ⟨out, s1, s2⟩ := slices_ok hsm hgood.1
    rw [← htr] at s2
    rw [s1]
    simp only [Option.bind_some, List.length_map]
    have hv10 : v < 10 := by omega
    have hout : ∀ y ∈ out, y < 1024 := fun y hy => (slice_sat ((s2.2 y).1 hy)).1
    have houtl := ord_len s2.1 hout
    have hul : uses (tr c v) < 2 ^ c.Members.length := by rw [htr]; exact uses_below _ hgood.2
    have hrest : ∀ y ∈ out.map (fun y => ndiff y (2 ^ v)), y < 2 ^ c.Members.length := fun y hy => by
      obtain ⟨z, hz, rfl⟩ := List.mem_map.1 hy
      refine Nat.lt_of_le_of_lt (sub_le ?_) hul
      intro i hi
      rw [testBit_ndiff, Bool.and_eq_true] at hi
      exact slice_uses ((s2.2 z).1 hz) i hi.1
    have hpw : 2 ^ c.Members.length ≤ 1024 := Nat.pow_le_pow_right (n := 2) (by decide) (by omega : c.Members.length ≤ 10)
    have hb : ∀ s, meetsB (out.map fun y => ndiff y (2 ^ v)) s = blk c v s := fun s => meets_blk hdv s2
    obtain ⟨o1, m1, m2⟩ := meeting_ok (l := out.map fun y => ndiff y (2 ^ v)) (by simpa using houtl) (n := c.Members.length) (by omega) hrest
    obtain ⟨o2, b1, b2⟩ := bleast_ok hc (cerr_zero.2 (c1.valid (by decide))) hdv
    have heq : o2 = o1 := by
      refine b2.unique m2 fun s => ?_
      have hpk : pick (meetsB (out.map fun y => ndiff y (2 ^ v))) (2 ^ c.Members.length) = pick (blk c v) (2 ^ c.Members.length) := by
        unfold pick
        congr 1
        funext s
        exact hb s
      rw [hpk]
      refine (mins_of (fun s hs => ?_) (fun s hs => ?_) s).symm
      · have := mem_pick.1 hs
        exact mem_pick.2 ⟨by omega, this.2⟩
      · have := mem_pick.1 hs
        refine ⟨s &&& uses (tr c v), mem_pick.2 ⟨Nat.lt_of_le_of_lt Nat.and_le_right hul, by rw [blk_uses]; exact this.2⟩, Sub.and_left _ _⟩
    have ho1 := ord_len m2.1 fun s hs => by have := (mem_pick.1 ((m2.2 s).1 hs).1).1; omega
    refine meets_l1 hv10 hout houtl ?_ out [] rfl
    exact (meets_l2 hc hv10 (fun y hy => by have := hrest y hy; omega) (by simpa using houtl) hb (by rw [heq]) (by simp; omega) m1 b1 20 0 j2 (by decide) t3).1
end Go.Proofs.Ytfailfoncbbgjaa
