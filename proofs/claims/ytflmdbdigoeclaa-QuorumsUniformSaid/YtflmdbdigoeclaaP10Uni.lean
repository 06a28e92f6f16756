/- Configurations whose members all have one trust. -/
import Derived.Test.YtflmdbdigoeclaaP10Pquor
namespace Go.Proofs.Ytflmdbdigoeclaa
open Go Go.Ab Go.Sort
def uni (n : Nat) (x : Trust) : Config := ⟨List.replicate n ⟨true, x⟩⟩
theorem uni_len (n : Nat) (x : Trust) : (uni n x).Members.length = n := List.length_replicate
theorem uni_get {n : Nat} {x : Trust} {k : Nat} (h : k < n) : (uni n x).Members[k]? = some ⟨true, x⟩ := by
  rw [show (uni n x).Members = List.replicate n ⟨true, x⟩ from rfl, List.getElem?_replicate, if_pos h]
theorem uni_decl {n : Nat} (hn : n ≤ 10) (x : Trust) : decl (uni n x) = 2 ^ n - 1 := by
  apply Nat.eq_of_testBit_eq
  intro i
  rw [Bool.eq_iff_iff, testBit_decl, Nat.testBit_two_pow_sub_one, decide_eq_true_eq]
  constructor
  · rintro ⟨_, m, h1, _⟩
    have := (List.getElem?_eq_some_iff.1 h1).1
    rw [uni_len] at this; exact this
  · intro h
    exact ⟨by omega, _, uni_get h, rfl⟩
theorem uni_tr {n : Nat} {x : Trust} {k : Nat} (h : k < n) : tr (uni n x) k = x := by simp [tr, uni_get h]
theorem uni_small {n : Nat} (hn : n ≤ 10) {x : Trust} (hx : Small x) : SmallC (uni n x) :=
  ⟨by rw [uni_len]; omega, fun m hm => by rw [(List.mem_replicate.1 hm).2]; exact hx⟩
theorem uni_valid {n : Nat} (hn : n ≤ 10) {x : Trust} (hv : valid x = true) (hu : uses x < 2 ^ n) : cerr (uni n x) = 0 := by
  refine cerr_zero.2 ⟨by rw [uni_len]; exact hn, fun m hm => ?_⟩
  rw [(List.mem_replicate.1 hm).2, uni_len]
  exact ⟨hv, hu⟩
theorem sats_zero : ∀ {l : List Trust}, (∀ x ∈ l, sat 0 x = false) → sats 0 l = 0
  | [], _ => rfl
  | y :: r, h => by
    simp only [sats]
    rw [h y (by simp), sats_zero fun x hx => h x (by simp [hx])]
    rfl
theorem goods_mem {l : List Trust} (h : goods l = true) : ∀ x ∈ l, good x = true := by
  induction l with
  | nil => intro x hx; cases hx
  | cons y r ih =>
    simp only [goods, Bool.and_eq_true] at h
    intro x hx
    rcases List.mem_cons.1 hx with rfl | hx
    · exact h.1
    · exact ih h.2 x hx
theorem sat_zero : ∀ t : Trust, good t = true → sat 0 t = false := by
  apply Trust.ind
  intro t ih h
  rw [good_eq] at h
  simp only [Bool.and_eq_true, decide_eq_true_eq] at h
  have h1 : cnt 0 t.Nodes = 0 := by
    unfold cnt
    rw [List.countP_eq_zero]
    intro k _
    rw [has_zero]; decide
  rw [sat_eq, h1, sats_zero fun x hx => ih x hx (goods_mem h.2.2.2.2 x hx)]
  exact decide_eq_false (by omega)
theorem uni_quo {n : Nat} (hn : n ≤ 10) {x : Trust} (hg : good x = true) {z : Nat} (hz : z < 2 ^ n) : quoB (uni n x) z = sat z x := by
  have hz10 : z < 1024 := Nat.lt_of_lt_of_le hz (pow10 hn)
  have hsub : Sub z (2 ^ n - 1) := fun i hi => by
    rw [Nat.testBit_two_pow_sub_one, decide_eq_true_eq]
    refine Nat.lt_of_not_le fun hge => ?_
    have := Nat.ge_two_pow_of_testBit hi
    have := Nat.pow_le_pow_right (n := 2) (by decide) hge
    omega
  by_cases h0 : z = 0
  · subst h0
    rw [sat_zero x hg]; rfl
  · rw [Bool.eq_iff_iff, quoB_iff hz10]
    constructor
    · rintro ⟨_, _, h3⟩
      obtain ⟨i, hi⟩ := bne_zero h0
      have hin : i < n := by have := hsub i hi; rw [Nat.testBit_two_pow_sub_one, decide_eq_true_eq] at this; exact this
      have := h3 i hi
      rw [uni_tr hin] at this; exact this
    · intro h
      refine ⟨h0, by rw [uni_decl hn]; exact hsub, fun k hk => ?_⟩
      have hin : k < n := by have := hsub k hk; rw [Nat.testBit_two_pow_sub_one, decide_eq_true_eq] at this; exact this
      rw [uni_tr hin]; exact h
theorem uni_pick {n : Nat} (hn : n ≤ 10) {x : Trust} (hg : good x = true) : pick (quoB (uni n x)) (2 ^ n) = pick (fun z => sat z x) (2 ^ n) := by
  unfold pick
  apply List.filter_congr
  intro z hz
  exact uni_quo hn hg (List.mem_range.1 hz)
theorem usym_l2 {n : Nat} (hn : n ≤ 10) {x : Trust} (hx : Small x) {z : Nat} (hz : z < 1024) {l : List Nat} (hl : l.length ≤ 10) (hm : ∀ k ∈ l, k < n) {a5 : Int} {r : Bool × Int}
    (K : quorums_Symmetric_l1 (l.map Int.ofNat) a5 (addI .i64 (z : Int) 1) (uni n x).Members = some r) : ∀ (suf : List Nat) (i : Nat), l.drop i = suf →
    quorums_Symmetric_l2 (l.map Int.ofNat) (z : Int) a5 (z : Int) (l.map Int.ofNat) ((l.length : Nat) : Int) (i : Int) (uni n x).Members = some r
  | [], i, h => by
    apply quorums_Symmetric_l2_le
    rw [ltB_end h]
    exact K
  | k :: suf, i, h => by
    have hlt := lt_drop h
    have hk := hm k (List.mem_of_mem_drop (by rw [h]; simp))
    obtain ⟨k0, r0, hl0⟩ : ∃ k0 r0, l = k0 :: r0 := by
      cases l with
      | nil => simp at hlt
      | cons a b => exact ⟨a, b, rfl⟩
    have hk0 := hm k0 (by rw [hl0]; simp)
    have hd0 : (l.map Int.ofNat).drop 0 = (k0 : Int) :: r0.map Int.ofNat := by rw [hl0]; rfl
    have ih := usym_l2 hn hx hz hl hm K suf (i + 1) (drop_next h)
    apply quorums_Symmetric_l2_le
    rw [ltB_drop h]
    simp only [cond_true, nth_drop (map_drop_cons h)]
    rw [show (0 : Int) = ((0 : Nat) : Int) from rfl, nth_drop hd0]
    rw [nth_get (y := Member.mk true x) (by omega) (by rw [Int.toNat_natCast]; exact uni_get hk), nth_get (y := Member.mk true x) (by omega) (by rw [Int.toNat_natCast]; exact uni_get hk0)]
    rw [psatisfied_ok hz x hx]
    simp only [Option.bind_some, beq_self_eq_true, Bool.not_true, cond_false]
    rw [next_nat (by omega)]
    exact ih
theorem usym_l1 {n : Nat} (hn : n ≤ 10) {x : Trust} (hx : Small x) {l : List Nat} (hl : l.length ≤ 10) (hm : ∀ k ∈ l, k < n) : ∀ (j z : Nat), z + j = 2 ^ n →
    quorums_Symmetric_l1 (l.map Int.ofNat) ((2 ^ n : Nat) : Int) (z : Int) (uni n x).Members = some (true, 0)
  | 0, z, h => by
    apply quorums_Symmetric_l1_le
    rw [ltB_false (by omega)]; rfl
  | j + 1, z, h => by
    have hp := pow10 hn
    have ih := usym_l1 hn hx hl hm j (z + 1) (by omega)
    rw [← next_nat (show z < 4611686018427387904 by omega)] at ih
    apply quorums_Symmetric_l1_le
    rw [ltB_true (by omega)]
    simp only [cond_true, List.length_map]
    exact usym_l2 hn hx (by omega) hl hm ih l 0 rfl
theorem usym_ok {n : Nat} (hn : n ≤ 10) {x : Trust} (hx : Small x) (hv : valid x = true) (hu : uses x < 2 ^ n) : quorums_Symmetric (uni n x) = some (true, 0) := by
  have hc := uni_small hn hx
  have hp := pow10 hn
  have hpos := Nat.two_pow_pos n
  apply quorums_Symmetric_le
  rw [pcerr_ok hc, uni_valid hn hv hu]
  simp only [Option.bind_some, neB_self, cond_false]
  rw [pdeclared_ok _ hc.1, uni_decl hn]
  simp only [Option.bind_some]
  rw [pnodes_ok (s := 2 ^ n - 1) (by omega)]
  simp only [Option.bind_some]
  rw [chk_true (by rw [uni_len]; omega), uni_len, shl1 (by omega) (by omega), Int.toNat_natCast]
  refine usym_l1 hn hx (nodes_len _) (fun k hk => ?_) (2 ^ n) 0 (by omega)
  have := (mem_nodes.1 hk).1
  rw [Nat.testBit_two_pow_sub_one, decide_eq_true_eq] at this
  exact this
theorem ucount_ok {n : Nat} (hn : n ≤ 10) {x : Trust} (hx : Small x) (hv : valid x = true) (hu : uses x < 2 ^ n) : quorums_Count (uni n x) = some ((((pick (fun z => sat z x) (2 ^ n)).length : Nat) : Int), 0) := by
  have hg : good x = true := by simp only [valid, Bool.and_eq_true] at hv; exact hv.2.2
  rw [pcount_ok (uni_small hn hx) (uni_valid hn hv hu), uni_len, uni_pick hn hg]
end Go.Proofs.Ytflmdbdigoeclaa
