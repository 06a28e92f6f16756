/- Plain lemmas for reading what the typed machine computes: numbers, sets as bits, rounds over a list. -/
import Derived.Test.YtfemjbmfpnpjfaaDoorTypRun
namespace Go.Ab

theorem Le.refl {α : Type} (a : Option α) : Le a a := fun _ h => h
theorem Le.trans {α : Type} {a b c : Option α} (h : Le a b) (h' : Le b c) : Le a c := fun r hr => h' r (h r hr)

/-! ### Numbers -/
theorem wrap64 {n : Int} (h1 : -9223372036854775808 ≤ n) (h2 : n < 9223372036854775808) : IntKind.wrap .i64 n = n := by
  have key : IntKind.wrap .i64 n = if n % 18446744073709551616 ≥ 9223372036854775808 then n % 18446744073709551616 - 18446744073709551616 else n % 18446744073709551616 := by
    show (if (true && decide (n % 18446744073709551616 ≥ 9223372036854775808)) = true then n % 18446744073709551616 - 18446744073709551616 else n % 18446744073709551616) = _
    simp only [Bool.true_and, decide_eq_true_eq]
  rw [key]
  split <;> omega
theorem addI64 {a b : Int} (h1 : -9223372036854775808 ≤ a + b) (h2 : a + b < 9223372036854775808) : addI .i64 a b = a + b := wrap64 h1 h2
theorem subI64 {a b : Int} (h1 : -9223372036854775808 ≤ a - b) (h2 : a - b < 9223372036854775808) : subI .i64 a b = a - b := wrap64 h1 h2
theorem shl1 {k : Int} (h0 : 0 ≤ k) (h : k ≤ 62) : shlI .i64 1 k = ((2 ^ k.toNat : Nat) : Int) := by
  obtain ⟨n, rfl⟩ := Int.eq_ofNat_of_zero_le h0
  have hn : n ≤ 62 := by omega
  simp only [shlI, IntKind.bits, Int.toNat_natCast, Int.one_mul]
  rw [Nat.min_eq_left (by omega)]
  have : (2 : Int) ^ n = ((2 ^ n : Nat) : Int) := by simp
  rw [this]
  have h2 : 2 ^ n ≤ 2 ^ 62 := Nat.pow_le_pow_right (by decide) hn
  have h3 : (2 : Nat) ^ 62 = 4611686018427387904 := by decide
  generalize 2 ^ n = m at *
  exact wrap64 (by omega) (by omega)

theorem eqB_iff {a b : Int} : eqB a b = true ↔ a = b := by simp [eqB]
theorem ltB_true {a b : Int} (h : a < b) : ltB a b = true := by simp [ltB, h]
theorem ltB_false {a b : Int} (h : b ≤ a) : ltB a b = false := by simp [ltB, h]
theorem leB_true {a b : Int} (h : a ≤ b) : leB a b = true := by simp [leB, h]
theorem leB_false {a b : Int} (h : b < a) : leB a b = false := by simp [leB, h]
theorem eqB_self (a : Int) : eqB a a = true := by simp [eqB]
theorem neB_self (a : Int) : neB a a = false := by simp [neB]
theorem eqB_ne {a b : Int} (h : a ≠ b) : eqB a b = false := by simp [eqB, h]
theorem neB_ne {a b : Int} (h : a ≠ b) : neB a b = true := by simp [neB, h]
theorem chk_true {β : Type} {p : Prop} [Decidable p] (h : p) (k : Option β) : chk p k = k := by simp [chk, h]
theorem capOk_true {β : Type} {n : Nat} (h : n ≤ maxElems) (k : Option β) : capOk n k = k := by simp [capOk, h]
theorem hiK_true {β : Type} {len : Nat} {n : Int} (h0 : 0 ≤ n) (h : n ≤ (len : Int)) (k : Nat → Option β) : hiK len n k = k n.toNat := by simp [hiK, h0, h]

/-! ### Sets as bits -/
/-- The bits of the one without those of the other. -/
def ndiff (a b : Nat) : Nat := a ^^^ (a &&& b)
theorem testBit_ndiff (a b i : Nat) : (ndiff a b).testBit i = (a.testBit i && !b.testBit i) := by
  simp only [ndiff, Nat.testBit_xor, Nat.testBit_and]
  cases a.testBit i <;> cases b.testBit i <;> rfl
theorem ofInt_nat (a : Nat) : BitVec.ofInt 64 (a : Int) = BitVec.ofNat 64 a := by
  simp
theorem small_pow {a n : Nat} (h : a < 2 ^ n) (hn : n ≤ 62) : a < 2 ^ 62 := Nat.lt_of_lt_of_le h (Nat.pow_le_pow_right (by decide) hn)
theorem mod64 {a : Nat} (h : a < 2 ^ 62) : a % 2 ^ 64 = a := Nat.mod_eq_of_lt (by omega)
theorem wrapNat {a : Nat} (h : a < 2 ^ 62) : IntKind.wrap .i64 (a : Int) = a := wrap64 (by omega) (by omega)
theorem orI_nat {a b : Nat} (ha : a < 2 ^ 62) (hb : b < 2 ^ 62) : orI .i64 (a : Int) (b : Int) = ((a ||| b : Nat) : Int) := by
  show IntKind.wrap .i64 (((BitVec.ofInt 64 (a : Int)) ||| (BitVec.ofInt 64 (b : Int))).toNat : Int) = _
  rw [ofInt_nat, ofInt_nat, BitVec.toNat_or, BitVec.toNat_ofNat, BitVec.toNat_ofNat, mod64 ha, mod64 hb]
  exact wrapNat (Nat.or_lt_two_pow ha hb)
theorem andI_nat {a b : Nat} (ha : a < 2 ^ 62) (hb : b < 2 ^ 62) : andI .i64 (a : Int) (b : Int) = ((a &&& b : Nat) : Int) := by
  show IntKind.wrap .i64 (((BitVec.ofInt 64 (a : Int)) &&& (BitVec.ofInt 64 (b : Int))).toNat : Int) = _
  rw [ofInt_nat, ofInt_nat, BitVec.toNat_and, BitVec.toNat_ofNat, BitVec.toNat_ofNat, mod64 ha, mod64 hb]
  exact wrapNat (Nat.and_lt_two_pow _ hb)
theorem xorI_nat {a b : Nat} (ha : a < 2 ^ 62) (hb : b < 2 ^ 62) : xorI .i64 (a : Int) (b : Int) = ((a ^^^ b : Nat) : Int) := by
  show IntKind.wrap .i64 (((BitVec.ofInt 64 (a : Int)) ^^^ (BitVec.ofInt 64 (b : Int))).toNat : Int) = _
  rw [ofInt_nat, ofInt_nat, BitVec.toNat_xor, BitVec.toNat_ofNat, BitVec.toNat_ofNat, mod64 ha, mod64 hb]
  exact wrapNat (Nat.xor_lt_two_pow ha hb)
theorem ndiff_lt {a b n : Nat} (h : a < 2 ^ n) : ndiff a b < 2 ^ n := by
  apply Nat.lt_pow_two_of_testBit
  intro i hi
  rw [testBit_ndiff]
  have : a.testBit i = false := Nat.testBit_lt_two_pow (Nat.lt_of_lt_of_le h (Nat.pow_le_pow_right (by decide) hi))
  rw [this]; rfl
theorem andNotI_nat {a b : Nat} (ha : a < 2 ^ 62) (hb : b < 2 ^ 62) : andNotI .i64 (a : Int) (b : Int) = ((ndiff a b : Nat) : Int) := by
  have key : (BitVec.ofNat 64 a &&& ~~~BitVec.ofNat 64 b).toNat = ndiff a b := by
    apply Nat.eq_of_testBit_eq
    intro i
    rw [testBit_ndiff]
    by_cases hi : i < 64
    · rw [BitVec.testBit_toNat, BitVec.getLsbD_and, BitVec.getLsbD_not, BitVec.getLsbD_ofNat, BitVec.getLsbD_ofNat]
      simp [hi]
    · have h1 : a.testBit i = false := Nat.testBit_lt_two_pow (Nat.lt_of_lt_of_le ha (Nat.pow_le_pow_right (by decide) (by omega)))
      rw [h1]
      simp only [Bool.false_and]
      apply Nat.testBit_lt_two_pow
      exact Nat.lt_of_lt_of_le (BitVec.isLt _) (Nat.pow_le_pow_right (by decide) (by omega))
  show IntKind.wrap .i64 (((BitVec.ofInt 64 (a : Int)) &&& ~~~(BitVec.ofInt 64 (b : Int))).toNat : Int) = _
  rw [ofInt_nat, ofInt_nat, key]
  exact wrapNat (ndiff_lt ha)
theorem shrI_nat (a k : Nat) (hk : k ≤ 64) : shrI .i64 (a : Int) (k : Int) = ((a >>> k : Nat) : Int) := by
  simp only [shrI, IntKind.bits, Int.toNat_natCast, Nat.min_eq_left hk, Nat.shiftRight_eq_div_pow]
  rw [Int.fdiv_eq_ediv_of_nonneg _ (Int.pow_nonneg (by decide))]
  simp

/-! ### Rounds over a list -/
section
variable {α β : Type} {xs r : List α} {i : Nat} {y : α}
theorem nth_drop (h : xs.drop i = y :: r) (k : α → Option β) : nth xs (i : Int) k = k y := by
  have h1 : xs[i]? = some y := by
    have := congrArg (·[0]?) h
    simpa using this
  simp [nth, h1]
theorem drop_next (h : xs.drop i = y :: r) : xs.drop (i + 1) = r := by
  rw [show i + 1 = i + 1 from rfl, ← List.drop_drop, h]; rfl
theorem lt_drop (h : xs.drop i = y :: r) : i < xs.length := by
  by_cases hl : i < xs.length
  · exact hl
  · rw [List.drop_eq_nil_of_le (by omega)] at h; cases h
theorem ltB_drop (h : xs.drop i = y :: r) : ltB (i : Int) ((xs.length : Nat) : Int) = true := ltB_true (by have := lt_drop h; omega)
theorem ltB_end (h : xs.drop i = []) : ltB (i : Int) ((xs.length : Nat) : Int) = false := ltB_false (by have := List.drop_eq_nil_iff.1 h; omega)
theorem next_nat (h : i < 4611686018427387904) : addI .i64 (i : Int) 1 = ((i + 1 : Nat) : Int) := by
  rw [addI64 (by omega) (by omega)]; omega
theorem next_drop (h : xs.drop i = y :: r) (hl : xs.length < 4611686018427387904) : addI .i64 (i : Int) 1 = ((i + 1 : Nat) : Int) := next_nat (by have := lt_drop h; omega)
end
theorem nth_get {α β : Type} {xs : List α} {n : Int} {y : α} (h0 : 0 ≤ n) (h : xs[n.toNat]? = some y) (k : α → Option β) : nth xs n k = k y := by simp [nth, h0, h]
theorem nthN_get {α β : Type} {xs : List α} {n : Nat} {y : α} (h : xs[n]? = some y) (k : α → Option β) : nthN xs n k = k y := by simp [nthN, h]
end Go.Ab
