/- Slices of a trust, sets that meet a list, the least sets that block. -/
import Derived.Test.YtfjcndlhpfbcgaaGreatZ16Errs
import Derived.Test.YtfjcndlhpfbcgaaGreatZ16Block
import Derived.Test.YtfjcndlhpfbcgaaGreatZ16Least
namespace Go.Proofs.YtfjcndlhpfbcgaaGreat
open Go Go.Ab Go.Sort
theorem qlm {a b : List Int} (hl : a.length < 1152921504606846976) (hab : a.length = b.length) : ∀ (n i : Nat), i + n = a.length →
    ∃ r, z5p a b ((a.length : Nat) : Int) (i : Int) = some r ∧ (r = true ↔ a.drop i = b.drop i)
  | 0, i, h => by
    refine ⟨true, ?_, by simp [List.drop_eq_nil_of_le (show a.length ≤ i by omega), List.drop_eq_nil_of_le (show b.length ≤ i by omega)]⟩
    apply qtl
    rw [q02 (by omega)]
    rfl
  | n + 1, i, h => by
    have h1 : i < a.length := by omega
    have h2 : i < b.length := by omega
    obtain ⟨r, e1, e2⟩ := qlm hl hab n (i + 1) (by omega)
    rw [qir h1 h2]
    by_cases hx : a[i] = b[i]
    · refine ⟨r, ?_, by rw [e2]; simp [hx]⟩
      apply qtl
      rw [q05 (by omega), q10 (by omega) (show a[((i : Nat) : Int).toNat]? = some a[i] by simp), q10 (by omega) (show b[((i : Nat) : Int).toNat]? = some b[i] by simp), hx, q0h, q04 (by omega)]
      simp only [cond_true, cond_false]
      exact e1
    · refine ⟨false, ?_, by simp [hx]⟩
      apply qtl
      rw [q05 (by omega), q10 (by omega) (show a[((i : Nat) : Int).toNat]? = some a[i] by simp), q10 (by omega) (show b[((i : Nat) : Int).toNat]? = some b[i] by simp), q18 hx]
      rfl
theorem y4e {a b : List Int} (hl : a.length < 1152921504606846976) : ∃ r, z5w a b = some r ∧ (r = true ↔ a = b) := by
  by_cases hab : a.length = b.length
  · obtain ⟨r, e1, e2⟩ := qlm hl hab a.length 0 (by omega)
    refine ⟨r, ?_, by simpa using e2⟩
    apply qxn
    rw [← hab, q0h]
    exact e1
  · refine ⟨false, ?_, by simp; rintro rfl; exact hab rfl⟩
    apply qxn
    rw [q18 (by omega)]
    rfl
theorem q6y {a b : List Int} (hl : a.length < 1152921504606846976) : z5w a b = some (decide (a = b)) := by
  obtain ⟨r, h1, h2⟩ := y4e (b := b) hl
  rw [h1]
  congr 1
  rw [Bool.eq_iff_iff, h2, decide_eq_true_eq]
def pick (p : Nat → Bool) (n : Nat) : List Nat := (List.range n).filter p
theorem q6f (p : Nat → Bool) (n : Nat) : pick p (n + 1) = if p n = true then pick p n ++ [n] else pick p n := by
  unfold pick
  rw [List.range_succ, List.filter_append]
  by_cases h : p n = true <;> simp [h]
theorem q0n {p : Nat → Bool} {n s : Nat} : s ∈ pick p n ↔ s < n ∧ p s = true := by simp [pick]
theorem q3m (p : Nat → Bool) (n : Nat) : (pick p n).length ≤ n := by
  have := List.length_filter_le p (List.range n)
  simpa [pick] using this
theorem qgl (a : Nat) : neB (a : Int) 0 = (a != 0) := by
  by_cases h : a = 0
  · subst h; rfl
  · rw [q18 (by omega)]; simp [h]
theorem q69 (a : Nat) : eqB (a : Int) 0 = (a == 0) := by
  by_cases h : a = 0
  · subst h; rfl
  · rw [q0z (by omega)]; simp [h]
theorem q17 {l : List Nat} {i k : Nat} {suf : List Nat} (h : l.drop i = k :: suf) : (l.map Int.ofNat).drop i = (k : Int) :: suf.map Int.ofNat := by
  rw [← List.map_drop, h]; rfl
theorem q4i {pre suf l : List Nat} (h : l = pre ++ suf) : l.drop pre.length = suf := by rw [h]; simp
def q5o (l : List Nat) (s : Nat) : Bool := l.all fun y => y &&& s != 0
theorem quc {l : List Nat} {n : Nat} (hn : n ≤ 10) (hl : l.length ≤ 1024) {r : List Int × Int} (hr : z1y (l.map Int.ofNat) (n : Int) [] 0 = some r) : ∀ (suf : List Nat) (i : Nat), l.drop i = suf → (∀ y ∈ suf, y < 2 ^ n) →
    z3j (l.map Int.ofNat) (n : Int) (l.map Int.ofNat) ((l.length : Nat) : Int) (i : Int) = some r
  | [], i, h, hm => by
    apply qxi
    rw [q0l h, List.length_map, q02 (by omega)]
    exact hr
  | y :: suf, i, h, hm => by
    have hlt := q0k h
    have hy := hm y (by simp)
    have hp : 2 ^ n ≤ 1024 := Nat.pow_le_pow_right (n := 2) (by decide) hn
    apply qxi
    rw [q0e h]
    simp only [cond_true, q0d (q17 h)]
    rw [q02 (by omega), q0m (by omega), shl1 (by omega) (by omega), Int.toNat_natCast, q0a (by omega), q04 (by omega)]
    exact quc hn hl hr suf (i + 1) (q08 h) fun z hz => hm z (by simp [hz])
theorem qt2 {l : List Nat} (hll : l.length ≤ 1024) (hl : ∀ y ∈ l, y < 1024) {n : Nat} {acc : List Nat} (hacc : acc.length ≤ 1024) {s : Nat} (hs : s < 1024) {r : List Int × Int}
    (hyes : q5o l s = true → z1y (l.map Int.ofNat) (n : Int) ((acc ++ [s]).map Int.ofNat) ((s + 1 : Nat) : Int) = some r)
    (hno : q5o l s = false → z1y (l.map Int.ofNat) (n : Int) (acc.map Int.ofNat) ((s + 1 : Nat) : Int) = some r) :
    ∀ (suf pre : List Nat), l = pre ++ suf → ∀ b, b = q5o pre s → z34 (l.map Int.ofNat) (n : Int) (acc.map Int.ofNat) (s : Int) b (l.map Int.ofNat) ((l.length : Nat) : Int) ((pre.length : Nat) : Int) = some r
  | [], pre, e, b, hb => by
    have hd := q4i e
    rw [List.append_nil] at e
    rw [← e] at hb
    apply qxu
    rw [q0l hd]
    simp only [cond_false]
    rw [q04 (by omega)]
    cases b with
    | true =>
      rw [q09 (by simp [q0g]; omega)]
      have := hyes hb.symm
      rw [List.map_append] at this
      exact this
    | false => exact hno hb.symm
  | y :: suf, pre, e, b, hb => by
    have hd := q4i e
    have hlt := q0k hd
    have hy := hl y (by rw [e]; simp)
    have hpre : l = (pre ++ [y]) ++ suf := by rw [e]; simp
    have hlen : (pre ++ [y]).length = pre.length + 1 := by simp
    have ih := qt2 hll hl hacc hs hyes hno suf (pre ++ [y]) hpre
    rw [hlen] at ih
    apply qxu
    rw [q0e hd]
    simp only [cond_true, q0d (q17 hd)]
    rw [q04 (by omega), q2q (by omega) (by omega), qgl]
    have hm : q5o (pre ++ [y]) s = (q5o pre s && (y &&& s != 0)) := by simp [q5o]
    cases b with
    | true => exact ih _ (by rw [hm, ← hb]; rfl)
    | false => exact ih _ (by rw [hm, ← hb]; rfl)
theorem qrk {l : List Nat} (hll : l.length ≤ 1024) (hl : ∀ y ∈ l, y < 1024) {n : Nat} (hn : n ≤ 10) {r : List Int} (hr : z3e ((pick (q5o l) (2 ^ n)).map Int.ofNat) = some r) : ∀ (k i : Nat), i + k = 2 ^ n →
    z1y (l.map Int.ofNat) (n : Int) ((pick (q5o l) i).map Int.ofNat) (i : Int) = some (r, 0)
  | 0, i, h => by
    have : i = 2 ^ n := by omega
    subst this
    have hp : 2 ^ n ≤ 1024 := Nat.pow_le_pow_right (n := 2) (by decide) hn
    apply qzw
    rw [q0m (by omega), shl1 (by omega) (by omega), Int.toNat_natCast, q02 (by omega), hr]; rfl
  | k + 1, i, h => by
    have hp : 2 ^ n ≤ 1024 := Nat.pow_le_pow_right (n := 2) (by decide) hn
    have ih := qrk hll hl hn hr k (i + 1) (by omega)
    rw [q6f] at ih
    have hle := q3m (q5o l) i
    apply qzw
    rw [q0m (by omega), shl1 (by omega) (by omega), Int.toNat_natCast, q05 (by omega), List.length_map]
    refine qt2 hll hl (by omega) (by omega) (fun h => ?_) (fun h => ?_) l [] rfl true rfl
    · rw [if_pos h] at ih; exact ih
    · rw [if_neg (by simp [h])] at ih; exact ih
theorem qqs {l : List Nat} (hll : l.length ≤ 1024) {n : Nat} (hn : n ≤ 10) (hl : ∀ y ∈ l, y < 2 ^ n) : ∃ out, z69 (l.map Int.ofNat) (n : Int) = some (out.map Int.ofNat, 0) ∧ LeastOf (pick (q5o l) (2 ^ n)) out := by
  have hp : 2 ^ n ≤ 1024 := Nat.pow_le_pow_right (n := 2) (by decide) hn
  obtain ⟨out, h1, h2⟩ := qc8 (pick (q5o l) (2 ^ n)) (by have := q3m (q5o l) (2 ^ n); omega) fun s hs => by have := (q0n.1 hs).1; omega
  refine ⟨out, ?_, h2⟩
  apply y5v
  rw [q02 (by omega), q02 (by omega), List.length_map]
  refine quc hn hll ?_ l 0 rfl hl
  have := qrk hll (fun y hy => by have := hl y hy; omega) hn h1 (2 ^ n) 0 (by omega)
  simpa [pick] using this
theorem qha {u : Nat} (hu : u < 1024) {r : List Int} (hr : z0e ((pick (fun s => subB s u) (u + 1)).map Int.ofNat) = some r) : ∀ (n i : Nat), i + n = u + 1 →
    z2f (u : Int) ((pick (fun s => subB s u) i).map Int.ofNat) (i : Int) = some r
  | 0, i, h => by
    have : i = u + 1 := by omega
    subst this
    apply qxm
    rw [q5d, q48 hu, q0a (by omega)]
    simp only [Option.bind_some, cond_true, cond_false, hr]
  | n + 1, i, h => by
    have ih := qha hu hr n (i + 1) (by omega)
    rw [q6f] at ih
    have hle := q3m (fun s => subB s u) i
    apply qxm
    rw [q5d, q48 hu, q0f (by omega), q2y (by omega) (by omega), q69, q04 (by omega)]
    simp only [Option.bind_some, cond_true]
    cases h1 : subB i u with
    | true =>
      rw [show (ndiff i u == 0) = true from h1, q09 (by simp [q0g]; omega)]
      rw [if_pos h1, List.map_append] at ih
      exact ih
    | false =>
      rw [show (ndiff i u == 0) = false from h1]
      rw [if_neg (by simp [h1])] at ih
      exact ih
theorem q3p {a b : Nat} (h : Sub a b) : a ≤ b := by
  rw [← qad.1 h]; exact Nat.and_le_right
theorem y0r {l l' : List Nat} (h1 : ∀ s ∈ l, s ∈ l') (h2 : ∀ s ∈ l', ∃ t ∈ l, Sub t s) (s : Nat) : Mins l s ↔ Mins l' s := by
  constructor
  · rintro ⟨ha, hb⟩
    refine ⟨h1 s ha, fun t ht hts => ?_⟩
    obtain ⟨u, hu, hut⟩ := h2 t ht
    have := hb u hu (hut.trans hts)
    subst this
    exact Sub.antisymm hts hut
  · rintro ⟨ha, hb⟩
    obtain ⟨u, hu, hus⟩ := h2 s ha
    have := hb u (h1 u hu) hus
    subst this
    exact ⟨hu, fun t ht => hb t (h1 t ht)⟩
theorem LeastOf.of {l l' out : List Nat} (h : LeastOf l out) (hm : ∀ s, Mins l s ↔ Mins l' s) : LeastOf l' out := ⟨h.1, fun s => by rw [h.2, hm]⟩
end Go.Proofs.YtfjcndlhpfbcgaaGreat
