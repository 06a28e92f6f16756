/- breakPatterns: the generator of numbers and its three swaps. -/
import Derived.Test.YtfjcndlhpfbcgaaGreatZ16Sort10
namespace Go.Proofs.YtfjcndlhpfbcgaaGreat
open Go Go.Ab Go.Sort
theorem wrapU {n : Nat} (h : n < 18446744073709551616) : IntKind.wrap .u64 (n : Int) = (n : Int) := by
  show ((n : Int)) % 18446744073709551616 = n
  omega
theorem qt4 (n : Nat) : IntKind.wrap .u64 (n : Int) = ((n % 18446744073709551616 : Nat) : Int) := by
  show ((n : Int)) % 18446744073709551616 = _
  omega
theorem qno (a : UInt64) : BitVec.ofInt 64 (a.toNat : Int) = a.toBitVec := by
  apply BitVec.eq_of_toNat_eq
  rw [BitVec.toNat_ofInt]
  have := a.toNat_lt
  show ((a.toNat : Int) % ((2 ^ 64 : Nat) : Int)).toNat = a.toNat
  omega
theorem xor_u (a b : UInt64) : xorI .u64 (a.toNat : Int) (b.toNat : Int) = ((a ^^^ b).toNat : Int) := by
  have h : (a ^^^ b).toNat < 18446744073709551616 := (a ^^^ b).toNat_lt
  show IntKind.wrap .u64 (((BitVec.ofInt 64 (a.toNat : Int)) ^^^ (BitVec.ofInt 64 (b.toNat : Int))).toNat : Int) = _
  rw [qno, qno]
  exact wrapU h
theorem shl_u (a : UInt64) (k : Nat) (c : UInt64) (hk : k < 64) (hc : c.toNat = k) : shlI .u64 (a.toNat : Int) (k : Int) = ((a <<< c).toNat : Int) := by
  rw [UInt64.toNat_shiftLeft, hc, Nat.mod_eq_of_lt hk, Nat.shiftLeft_eq]
  show IntKind.wrap .u64 ((a.toNat : Int) * 2 ^ (min ((k : Int).toNat) 64)) = _
  rw [Int.toNat_natCast, Nat.min_eq_left (by omega)]
  have := qt4 (a.toNat * 2 ^ k)
  rw [Int.natCast_mul, Int.natCast_pow] at this
  exact this
theorem shr_u (a : UInt64) (k : Nat) (c : UInt64) (hk : k < 64) (hc : c.toNat = k) : shrI .u64 (a.toNat : Int) (k : Int) = ((a >>> c).toNat : Int) := by
  rw [UInt64.toNat_shiftRight, hc, Nat.mod_eq_of_lt hk, Nat.shiftRight_eq_div_pow]
  show (a.toNat : Int).fdiv (2 ^ (min ((k : Int).toNat) 64)) = _
  rw [Int.toNat_natCast, Nat.min_eq_left (by omega), Int.fdiv_eq_ediv_of_nonneg _ (Int.pow_nonneg (by decide))]
  rw [Int.natCast_ediv, Int.natCast_pow]
  rfl
theorem qws (r : UInt64) : z43 (r.toNat : Int) = some (((xorNext r).toNat : Int), ((xorNext r).toNat : Int)) := by
  apply y1s
  have e1 : shlI .u64 (r.toNat : Int) 13 = ((r <<< 13).toNat : Int) := shl_u r 13 13 (by decide) rfl
  rw [e1, xor_u]
  generalize hr1 : r ^^^ (r <<< 13) = r1
  have e2 : shrI .u64 (r1.toNat : Int) 7 = ((r1 >>> 7).toNat : Int) := shr_u r1 7 7 (by decide) rfl
  rw [e2, xor_u]
  generalize hr2 : r1 ^^^ (r1 >>> 7) = r2
  have e3 : shlI .u64 (r2.toNat : Int) 17 = ((r2 <<< 17).toNat : Int) := shl_u r2 17 17 (by decide) rfl
  rw [e3, xor_u]
  have : xorNext r = r2 ^^^ (r2 <<< 17) := by simp only [xorNext, hr1, hr2]
  rw [this]
theorem q58 {n k : Nat} (h : n < 2 ^ k) : bitsLen n ≤ k := by
  unfold bitsLen
  split
  · omega
  · rename_i h0
    have := (Nat.log2_lt h0).2 h
    omega
theorem qq4 (n : Nat) : n < 2 ^ bitsLen n := by
  unfold bitsLen
  split
  · rename_i h; subst h; decide
  · rename_i h0
    exact (Nat.log2_lt h0).1 (Nat.lt_succ_self _)
theorem qie {n : Nat} (h : 256 ≤ n) : bitsLen n = 8 + bitsLen (n / 256) := by
  have h0 : n ≠ 0 := by omega
  have h1 : n / 256 ≠ 0 := by omega
  unfold bitsLen
  rw [if_neg h0, if_neg h1]
  have a1 : 2 ^ Nat.log2 (n / 256) ≤ n / 256 := Nat.log2_self_le h1
  have a2 : n / 256 < 2 ^ (Nat.log2 (n / 256) + 1) := Nat.lt_log2_self
  have b1 : Nat.log2 (n / 256) + 8 ≤ Nat.log2 n := (Nat.le_log2 h0).2 (by rw [Nat.pow_add]; omega)
  have b2 : Nat.log2 n < Nat.log2 (n / 256) + 9 := (Nat.log2_lt h0).2 (by
    rw [show Nat.log2 (n / 256) + 9 = (Nat.log2 (n / 256) + 1) + 8 by omega, Nat.pow_add]; omega)
  omega
def qtz : List UInt8 := (List.range 256).map fun n => UInt8.ofNat (bitsLen n)
theorem qqw {n : Nat} (h : n < 256) : qtz[n]? = some (UInt8.ofNat (bitsLen n)) := by
  unfold qtz
  rw [List.getElem?_map, List.getElem?_range h]; rfl
theorem qi2 {n : Nat} (h : n < 256) : ((UInt8.ofNat (bitsLen n)).toNat : Nat) = bitsLen n := by
  have := q58 (n := n) (k := 8) h
  simp
  omega
theorem y5d {n : Nat} (h : n < 256) : IntKind.wrap .u8 (n : Int) = (n : Int) := by
  show ((n : Int)) % 256 = n
  omega
theorem qsy {β : Type} (T : List UInt8) (hT : T = qtz) {n : Nat} (h : n < 256) (k : UInt8 → Option β) : nth T (IntKind.wrap .u8 (n : Int)) k = k (UInt8.ofNat (bitsLen n)) := by
  subst hT
  rw [y5d h, q10 (by omega) (by rw [Int.toNat_natCast]; exact qqw h)]
set_option maxRecDepth 100000 in
theorem qwl {n : Nat} (h : n < 65536) : z6v (n : Int) = some ((bitsLen n : Nat) : Int) := by
  apply y2g
  rw [q0a (show (n : Int) < 4294967296 by omega), q0a (show (n : Int) < 65536 by omega)]
  simp only [cond_false]
  by_cases h1 : 256 ≤ n
  · have e : shrI .u64 (n : Int) 8 = ((n / 256 : Nat) : Int) := by
      show (n : Int).fdiv (2 ^ (min ((8 : Int).toNat) 64)) = _
      rw [show (min ((8 : Int).toNat) 64) = 8 from rfl, Int.fdiv_eq_ediv_of_nonneg _ (by decide), Int.natCast_ediv]; rfl
    have hs : n / 256 < 256 := by omega
    rw [q0f (by omega)]
    simp only [cond_true]
    rw [e, qsy _ (by kernel_rfl) hs, qi2 hs, qie h1]
    have := q58 (n := n / 256) (k := 8) hs
    rw [q4s (by omega) (by omega), q1k (by omega) (by omega)]
    congr 1 <;> omega
  · have hs : n < 256 := by omega
    rw [q0a (by omega)]
    simp only [cond_false]
    rw [qsy _ (by kernel_rfl) hs, qi2 hs]
    have := q58 (n := n) (k := 8) hs
    rw [q4s (by omega) (by omega), q1k (by omega) (by omega)]
    congr 1 <;> omega
theorem qzb {n : Nat} (h : n < 65536) : z6y (n : Int) = some ((bitsLen n : Nat) : Int) := by
  apply y5e
  rw [qwl h]; rfl
theorem y02 {n : Nat} (h : n < 65536) : z3s (n : Int) = some ((2 ^ bitsLen n : Nat) : Int) := by
  apply y4u
  have hb := q58 (n := n) (k := 16) h
  rw [wrapU (by omega), qzb h]
  simp only [Option.bind_some]
  rw [q0m (by omega)]
  congr 1
  show IntKind.wrap .u64 (1 * 2 ^ (min (((bitsLen n : Nat) : Int).toNat) 64)) = _
  rw [Int.toNat_natCast, Nat.min_eq_left (by omega), Int.one_mul]
  have h2 : 2 ^ bitsLen n ≤ 2 ^ 16 := Nat.pow_le_pow_right (by decide) hb
  have := wrapU (n := 2 ^ bitsLen n) (by omega)
  rw [Int.natCast_pow] at this
  exact this
theorem q68 {a length modulus : Nat} (st : UInt64 × Array Int) (idx : Nat) : (breakStep a length modulus st idx).2.size = st.2.size := by
  simp only [breakStep, q0q]
theorem qd0 (a length idx : Nat) (r : UInt64) (d : Array Int) (hl : 8 ≤ length) (hl2 : length < 65536) (hb : a + length ≤ d.size) (hd : Lim d) (hi : idx ≤ a + length / 4 * 2 + 1) (hi2 : idx < d.size) :
    Le (z0b (a : Int) (length : Int) ((2 ^ bitsLen length : Nat) : Int) ((idx + 1 : Nat) : Int) (breakStep a length (2 ^ bitsLen length) (r, d) idx).2.toList ((breakStep a length (2 ^ bitsLen length) (r, d) idx).1.toNat : Int))
      (z0b (a : Int) (length : Int) ((2 ^ bitsLen length : Nat) : Int) (idx : Int) d.toList (r.toNat : Int)) := by
  intro q hq
  apply qy6
  unfold Lim at hd
  have hbl := q58 (n := length) (k := 16) hl2
  have h2 : 2 ^ bitsLen length ≤ 2 ^ 16 := Nat.pow_le_pow_right (by decide) hbl
  have h3 := Nat.two_pow_pos (bitsLen length)
  have h4 := qq4 length
  have h5 : 2 ^ bitsLen length ≤ 2 * length := by
    have : bitsLen length = Nat.log2 length + 1 := by unfold bitsLen; rw [if_neg (by omega)]
    rw [this, Nat.pow_succ]
    have := Nat.log2_self_le (n := length) (by omega)
    omega
  generalize hM : 2 ^ bitsLen length = M at *
  have e0 : addI .i64 (addI .i64 (a : Int) (mulI .i64 (quoI .i64 (length : Int) 4) 2)) 1 = ((a + length / 4 * 2 + 1 : Nat) : Int) := by
    rw [quo4 (by omega), show (2 : Int) = ((2 : Nat) : Int) from rfl, mulN (by omega), addN (by omega), q04 (by omega)]
  rw [e0, q0f (by omega), qws]
  simp only [cond_true, Option.bind_some]
  have e1 : subI .u64 (M : Int) 1 = ((M - 1 : Nat) : Int) := by
    show IntKind.wrap .u64 ((M : Int) - 1) = _
    rw [show (M : Int) - 1 = ((M - 1 : Nat) : Int) by omega, wrapU (by omega)]
  have e2 : andI .u64 ((xorNext r).toNat : Int) ((M - 1 : Nat) : Int) = (((xorNext r).toNat &&& (M - 1) : Nat) : Int) := by
    show IntKind.wrap .u64 (((BitVec.ofInt 64 ((xorNext r).toNat : Int)) &&& (BitVec.ofInt 64 ((M - 1 : Nat) : Int))).toNat : Int) = _
    have hr : (xorNext r).toNat < 18446744073709551616 := (xorNext r).toNat_lt
    have c1 : BitVec.ofInt 64 ((M - 1 : Nat) : Int) = BitVec.ofNat 64 (M - 1) := BitVec.ofInt_natCast ..
    rw [qno, c1, BitVec.toNat_and, BitVec.toNat_ofNat, Nat.mod_eq_of_lt (show M - 1 < 2 ^ 64 by omega)]
    have : (xorNext r).toBitVec.toNat &&& (M - 1) ≤ M - 1 := Nat.and_le_right
    exact wrapU (by omega)
  rw [e1, e2]
  have hother : (xorNext r).toNat &&& (M - 1) ≤ M - 1 := Nat.and_le_right
  generalize ho : (xorNext r).toNat &&& (M - 1) = o at hother
  rw [q4s (by omega) (by omega), q04 (by omega)]
  have key : ∀ p : Nat, p < d.size → breakStep a length M (r, d) idx = (xorNext r, swp d idx p) →
      z0b (a : Int) (length : Int) (M : Int) ((idx + 1 : Nat) : Int) (List.set (List.set d.toList idx d[p]!) p d[idx]!) ((xorNext r).toNat : Int) = some q := by
    intro p hp he
    rw [he] at hq
    rw [q1b]
    exact hq
  have hbs : breakStep a length M (r, d) idx = (xorNext r, swp d idx (a + if o ≥ length then o - length else o)) := by simp only [breakStep, ho]
  by_cases hge : length ≤ o
  · rw [q0f (by omega)]
    simp only [cond_true]
    rw [subN hge (by omega), addN (by omega)]
    have hp : a + (o - length) < d.size := by omega
    rw [nthA hp, nthA hi2, Int.toNat_natCast, Int.toNat_natCast, nthNA hp, nthNA hi2, nthA hi2, nthNA hi2, nthS _ hp, nthNS _ hp]
    exact key _ hp (by rw [hbs, if_pos hge])
  · rw [q0a (by omega)]
    simp only [cond_false]
    rw [addN (by omega)]
    have hp : a + o < d.size := by omega
    rw [nthA hp, nthA hi2, Int.toNat_natCast, Int.toNat_natCast, nthNA hp, nthNA hi2, nthA hi2, nthNA hi2, nthS _ hp, nthNS _ hp]
    exact key _ hp (by rw [hbs, if_neg (by omega)])
theorem qwt (a b : Nat) (d : Array Int) (hab : a ≤ b) (hbd : b ≤ d.size) (hd : Lim d) (hs : b - a < 65536) :
    z15 (a : Int) (b : Int) d.toList = some (breakPatterns d a b).toList := by
  apply y4i
  have hd' := hd
  unfold Lim at hd'
  rw [subN hab (by omega)]
  by_cases h8 : 8 ≤ b - a
  · rw [q0f (by omega)]
    simp only [cond_true]
    rw [y02 hs]
    simp only [Option.bind_some]
    rw [wrapU (by omega), quo4 (by omega), show (2 : Int) = ((2 : Nat) : Int) from rfl, mulN (by omega), addN (by omega), show (1 : Int) = ((1 : Nat) : Int) from rfl, subN (by omega) (by omega)]
    have hu : ((b - a : Nat) : Int) = ((UInt64.ofNat (b - a)).toNat : Int) := by
      rw [UInt64.toNat_ofNat_of_lt' (by show b - a < 2 ^ 64; omega)]
    have hbp : breakPatterns d a b = (breakStep a (b - a) (2 ^ bitsLen (b - a)) (breakStep a (b - a) (2 ^ bitsLen (b - a)) (breakStep a (b - a) (2 ^ bitsLen (b - a)) (UInt64.ofNat (b - a), d) (a + (b - a) / 4 * 2 - 1)) (a + (b - a) / 4 * 2 - 1 + 1)) (a + (b - a) / 4 * 2 - 1 + 2)).2 := by
      simp only [breakPatterns, if_pos h8, Nat.one_shiftLeft]
    rw [hbp]
    have s1 := q68 (a := a) (length := b - a) (modulus := 2 ^ bitsLen (b - a)) (UInt64.ofNat (b - a), d) (a + (b - a) / 4 * 2 - 1)
    generalize hst1 : breakStep a (b - a) (2 ^ bitsLen (b - a)) (UInt64.ofNat (b - a), d) (a + (b - a) / 4 * 2 - 1) = st1 at s1 ⊢
    have s2 := q68 (a := a) (length := b - a) (modulus := 2 ^ bitsLen (b - a)) st1 (a + (b - a) / 4 * 2 - 1 + 1)
    generalize hst2 : breakStep a (b - a) (2 ^ bitsLen (b - a)) st1 (a + (b - a) / 4 * 2 - 1 + 1) = st2 at s2 ⊢
    have s3 := q68 (a := a) (length := b - a) (modulus := 2 ^ bitsLen (b - a)) st2 (a + (b - a) / 4 * 2 - 1 + 2)
    generalize hst3 : breakStep a (b - a) (2 ^ bitsLen (b - a)) st2 (a + (b - a) / 4 * 2 - 1 + 2) = st3 at s3 ⊢
    simp only at s1
    have g1 := qd0 a (b - a) (a + (b - a) / 4 * 2 - 1) (UInt64.ofNat (b - a)) d h8 hs (by omega) hd (by omega) (by omega)
    rw [hst1] at g1
    have g2 := qd0 a (b - a) (a + (b - a) / 4 * 2 - 1 + 1) st1.1 st1.2 h8 hs (by omega) (by unfold Lim; omega) (by omega) (by omega)
    rw [show (st1.1, st1.2) = st1 from rfl, hst2] at g2
    have g3 := qd0 a (b - a) (a + (b - a) / 4 * 2 - 1 + 1 + 1) st2.1 st2.2 h8 hs (by omega) (by unfold Lim; omega) (by omega) (by omega)
    rw [show (st2.1, st2.2) = st2 from rfl, show a + (b - a) / 4 * 2 - 1 + 1 + 1 = a + (b - a) / 4 * 2 - 1 + 2 from rfl, hst3] at g3
    have hfin : z0b (a : Int) ((b - a : Nat) : Int) ((2 ^ bitsLen (b - a) : Nat) : Int) ((a + (b - a) / 4 * 2 - 1 + 2 + 1 : Nat) : Int) st3.2.toList (st3.1.toNat : Int) = some st3.2.toList := by
      apply qy6
      have e0 : addI .i64 (addI .i64 (a : Int) (mulI .i64 (quoI .i64 ((b - a : Nat) : Int) 4) 2)) 1 = ((a + (b - a) / 4 * 2 + 1 : Nat) : Int) := by
        rw [quo4 (by omega), show (2 : Int) = ((2 : Nat) : Int) from rfl, mulN (by omega), addN (by omega), q04 (by omega)]
      rw [e0, q0a (by omega)]
      rfl
    have := g1 _ (g2 _ (g3 _ hfin))
    rw [← this]
    congr 1
  · rw [q0a (by omega)]
    simp only [cond_false, breakPatterns, if_neg (show ¬ (b - a ≥ 8) by omega)]
end Go.Proofs.YtfjcndlhpfbcgaaGreat
