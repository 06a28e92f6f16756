/- Danger: what splits and what halts, in both texts; the least such sets; what is tolerated. -/
import Derived.Test.YtfjcndlhpfbcgaaGreatZ16Inter
namespace Go.Proofs.YtfjcndlhpfbcgaaGreat
open Go Go.Ab Go.Sort
def q2l (c : Config) (s : Nat) : Bool := twoB (delC s c)
def haltB (c : Config) (s : Nat) : Bool := q1a c (ndiff (2 ^ c.Members.length - 1) s) == 0
theorem ValidC.cerr {c : Config} (h : ValidC c) : cerr c = 0 := q1y.2 h
theorem q7j {c : Config} (hn : c.Members.length ≤ 10) : z3o c = some ((2 ^ c.Members.length - 1 : Nat) : Int) := by
  apply y5r
  rw [q0m (by omega), q32 hn]
theorem q4a {c : Config} (hn : c.Members.length ≤ 10) : z48 c = some ((2 ^ c.Members.length - 1 : Nat) : Int) := by
  apply y53
  rw [q0m (by omega), q32 hn]
theorem qbr {n s : Nat} (hn : n ≤ 10) (hs : s < 2 ^ n) : s < 1024 := by have := pow10 hn; omega
theorem qh0 {c : Config} (hv : ValidC c) {s : Nat} (hs : s < 2 ^ c.Members.length) : z5n c (s : Int) = some (q2l c s) := by
  apply y2o
  rw [qu6 (qbr hv.1 hs) c hv.bears]
  simp only [Option.bind_some]
  rw [qs5 (q35 s hv).small (q35 s hv).cerr]
  simp only [Option.bind_some, Bool.not_not, q2l]
theorem qkq {c : Config} (hv : ValidC c) {s : Nat} (hs : s < 2 ^ c.Members.length) : z5y c (s : Int) = some (haltB c s) := by
  have hp := pow10 hv.1
  have hlt : ndiff (2 ^ c.Members.length - 1) s < 1024 := q2k (by omega)
  apply y28
  rw [q7j hv.1]
  simp only [Option.bind_some]
  rw [q2y (by omega) (by omega), q8j hlt hv.small]
  simp only [Option.bind_some, q69, haltB]
def askE (c : Config) (z : Int) : Int := if cerr c ≠ 0 then cerr c else if z < 0 then 1 else if ((2 ^ c.Members.length - 1 : Nat) : Int) < z then 1 else 0
theorem qgh {c : Config} (hc : q13 c) (z : Int) : z5j c z = some (askE c z) := by
  apply y3l
  rw [q4g hc]
  simp only [Option.bind_some, askE]
  by_cases he : cerr c = 0
  · rw [he, q0h]
    simp only [cond_false, ne_eq, not_true, if_false]
    by_cases h0 : z < 0
    · rw [q05 h0, if_pos h0]; rfl
    · rw [q02 (by omega), if_neg h0, q7j (q1y.1 he).1]
      simp only [cond_false, Option.bind_some]
      by_cases h1 : ((2 ^ c.Members.length - 1 : Nat) : Int) < z
      · rw [q05 h1, if_pos h1]; rfl
      · rw [q02 (by omega), if_neg h1]; rfl
  · rw [q18 he]
    simp [he]
theorem qes {c : Config} (hc : q13 c) (z : Int) : z5v c z = some (askE c z) := by
  apply y5z
  rw [q52 hc]
  simp only [Option.bind_some, askE]
  by_cases he : cerr c = 0
  · rw [he, q0h]
    simp only [cond_false, ne_eq, not_true, if_false]
    by_cases h0 : z < 0
    · rw [q05 h0, if_pos h0]; rfl
    · rw [q02 (by omega), if_neg h0, q4a (q1y.1 he).1]
      simp only [cond_false, Option.bind_some]
      by_cases h1 : ((2 ^ c.Members.length - 1 : Nat) : Int) < z
      · rw [q05 h1, if_pos h1]; rfl
      · rw [q02 (by omega), if_neg h1]; rfl
  · rw [q18 he]
    simp [he]
theorem q6e {c : Config} {z : Int} (h : askE c z = 0) : ValidC c ∧ ∃ s : Nat, z = (s : Int) ∧ s < 2 ^ c.Members.length := by
  unfold askE at h
  have hp1 := Nat.two_pow_pos c.Members.length
  split at h
  · rename_i h1; exact absurd h h1
  · rename_i h1
    refine ⟨q1y.1 (Classical.not_not.1 h1), z.toNat, ?_, ?_⟩
    · split at h
      · omega
      · omega
    · split at h
      · omega
      · split at h <;> omega
theorem qiu {c : Config} (hv : ValidC c) {s : Nat} (hs : s < 2 ^ c.Members.length) : askE c (s : Int) = 0 := by
  unfold askE
  rw [hv.cerr, if_neg (by simp), if_neg (by omega), if_neg (by omega)]
def splR (c : Config) (z : Int) : Bool × Int := if askE c z = 0 then (q2l c z.toNat, 0) else (false, askE c z)
def halR (c : Config) (z : Int) : Bool × Int := if askE c z = 0 then (haltB c z.toNat, 0) else (false, askE c z)
theorem qh5 {c : Config} (hc : q13 c) (z : Int) : z5m c z = some (splR c z) := by
  apply y6d
  rw [qgh hc]
  simp only [Option.bind_some, splR]
  by_cases h : askE c z = 0
  · obtain ⟨hv, s, rfl, hs⟩ := q6e h
    rw [h, q0h, qh0 hv hs]
    rfl
  · rw [q18 h, if_neg h]; rfl
theorem qhq {c : Config} (hc : q13 c) (z : Int) : z63 c z = some (splR c z) := by
  apply y4p
  rw [qes hc]
  simp only [Option.bind_some, splR]
  by_cases h : askE c z = 0
  · obtain ⟨hv, s, rfl, hs⟩ := q6e h
    rw [h, q0h, q7s (qbr hv.1 hs) c hv.bears]
    simp only [Option.bind_some, cond_false, if_true]
    rw [qsz (q35 s hv).small (q35 s hv).cerr]
    simp only [Option.bind_some, Bool.not_not, q2l, Int.toNat_natCast]
  · rw [q18 h, if_neg h]; rfl
theorem qlj {c : Config} (hc : q13 c) (z : Int) : z64 c z = some (halR c z) := by
  apply y3e
  rw [qgh hc]
  simp only [Option.bind_some, halR]
  by_cases h : askE c z = 0
  · obtain ⟨hv, s, rfl, hs⟩ := q6e h
    rw [h, q0h, qkq hv hs]
    rfl
  · rw [q18 h, if_neg h]; rfl
theorem qfd {c : Config} (hc : q13 c) (z : Int) : z5u c z = some (halR c z) := by
  apply y5h
  rw [qes hc]
  simp only [Option.bind_some, halR]
  by_cases h : askE c z = 0
  · obtain ⟨hv, s, rfl, hs⟩ := q6e h
    have hp := pow10 hv.1
    have hlt : ndiff (2 ^ c.Members.length - 1) s < 1024 := q2k (by omega)
    rw [h, q0h, q4a hv.1]
    simp only [Option.bind_some, cond_false, if_true]
    rw [q7q (by omega) (by omega), ← qcn hs, qb0 hlt hv.small]
    simp only [Option.bind_some, q69, haltB, Int.toNat_natCast]
  · rw [q18 h, if_neg h]; rfl
theorem qp3 {c : Config} (hv : ValidC c) {s : Nat} (hs : s < 2 ^ c.Members.length) : splR c (s : Int) = (q2l c s, 0) := by
  unfold splR; rw [if_pos (qiu hv hs)]; rfl
theorem qis {c : Config} (hv : ValidC c) {s : Nat} (hs : s < 2 ^ c.Members.length) : halR c (s : Int) = (haltB c s, 0) := by
  unfold halR; rw [if_pos (qiu hv hs)]; rfl
def paiR (c : Config) (z : Int) : Int × Int × Int := if askE c z = 0 then disjR (delC z.toNat c) else (0, 0, askE c z)
theorem qph {c : Config} (hc : q13 c) (z : Int) : z6d c z = some (paiR c z) := by
  apply y30
  rw [qgh hc]
  simp only [Option.bind_some, paiR]
  by_cases h : askE c z = 0
  · obtain ⟨hv, s, rfl, hs⟩ := q6e h
    rw [h, q0h, qu6 (qbr hv.1 hs) c hv.bears]
    simp only [Option.bind_some, cond_false, if_true]
    rw [ql4 (q35 s hv).small (q35 s hv).cerr]
    rfl
  · rw [q18 h, if_neg h]; rfl
theorem qva {c : Config} (hc : q13 c) (z : Int) : z6w c z = some (paiR c z) := by
  apply y3m
  rw [qes hc]
  simp only [Option.bind_some, paiR]
  by_cases h : askE c z = 0
  · obtain ⟨hv, s, rfl, hs⟩ := q6e h
    rw [h, q0h, q7s (qbr hv.1 hs) c hv.bears]
    simp only [Option.bind_some, cond_false, if_true]
    rw [qm8 (q35 s hv).small (q35 s hv).cerr]
    rfl
  · rw [q18 h, if_neg h]; rfl
theorem ql2 {c : Config} (hv : ValidC c) {zs : List Nat} (hz : ∀ s ∈ zs, s < 2 ^ c.Members.length) (hzl : zs.length ≤ 1024) {r : List Int} (hr : z47 ((zs.filter (q2l c)).map Int.ofNat) = some r) : ∀ (suf pre : List Nat), zs = pre ++ suf →
    z1b ((pre.filter (q2l c)).map Int.ofNat) (zs.map Int.ofNat) ((zs.length : Nat) : Int) ((pre.length : Nat) : Int) c.Members = some r
  | [], pre, e => by
    have hd := q4i e
    rw [List.append_nil] at e
    apply qz5
    rw [q0l hd, ← e]
    simp only [cond_false]
    rw [hr]
    rfl
  | s :: suf, pre, e => by
    have hd := q4i e
    have hlt := q0k hd
    have hs := hz s (by rw [e]; simp)
    have hpre : zs = (pre ++ [s]) ++ suf := by rw [e]; simp
    have hlen : (pre ++ [s]).length = pre.length + 1 := by simp
    have ih := ql2 hv hz hzl hr suf (pre ++ [s]) hpre
    rw [hlen, List.filter_append] at ih
    have hle := List.length_filter_le (q2l c) pre
    apply qz5
    rw [q0e hd]
    simp only [cond_true, q0d (q17 hd)]
    rw [show Config.mk c.Members = c from rfl, qh0 hv hs, q04 (by omega)]
    simp only [Option.bind_some]
    cases h : q2l c s with
    | true =>
      simp only [List.filter_cons, h, if_true, List.filter_nil, List.map_append] at ih
      simp only [cond_true]
      rw [q09 (by simp [q0g]; omega)]
      exact ih
    | false =>
      simp only [List.filter_cons, h, Bool.false_eq_true, if_false, List.filter_nil, List.append_nil] at ih
      exact ih
theorem qh8 {c : Config} (hv : ValidC c) : ∃ out, z20 c = some (out.map Int.ofNat) ∧ LeastOf (pick (q2l c) (2 ^ c.Members.length)) out := by
  have hp := pow10 hv.1
  have hp1 := Nat.two_pow_pos c.Members.length
  have hu : 2 ^ c.Members.length - 1 < 1024 := by omega
  have hm : ∀ s ∈ q2j (2 ^ c.Members.length - 1), s < 2 ^ c.Members.length := fun s hs => q1c.2 (q15.1 hs)
  have hol := qcs hu
  have hfl := List.length_filter_le (q2l c) (q2j (2 ^ c.Members.length - 1))
  obtain ⟨out, h1, h2⟩ := qks ((q2j (2 ^ c.Members.length - 1)).filter (q2l c)) (by omega) fun s hs => by have := hm s (List.mem_filter.1 hs).1; omega
  refine ⟨out, ?_, h2.of (Mins.perm fun s => ?_)⟩
  · apply y4z
    rw [q7j hv.1]
    simp only [Option.bind_some]
    rw [qg8 hu]
    simp only [Option.bind_some, List.length_map]
    exact ql2 hv hm hol h1 _ [] rfl
  · rw [List.mem_filter, q0n, q15, q1c]
theorem qjt {c : Config} (hv : ValidC c) {zs : List Nat} (hz : ∀ s ∈ zs, s < 2 ^ c.Members.length) (hzl : zs.length ≤ 1024) {r : List Int} (hr : z47 ((zs.filter (haltB c)).map Int.ofNat) = some r) : ∀ (suf pre : List Nat), zs = pre ++ suf →
    z1d ((pre.filter (haltB c)).map Int.ofNat) (zs.map Int.ofNat) ((zs.length : Nat) : Int) ((pre.length : Nat) : Int) c.Members = some r
  | [], pre, e => by
    have hd := q4i e
    rw [List.append_nil] at e
    apply qyo
    rw [q0l hd, ← e]
    simp only [cond_false]
    rw [hr]
    rfl
  | s :: suf, pre, e => by
    have hd := q4i e
    have hlt := q0k hd
    have hs := hz s (by rw [e]; simp)
    have hpre : zs = (pre ++ [s]) ++ suf := by rw [e]; simp
    have hlen : (pre ++ [s]).length = pre.length + 1 := by simp
    have ih := qjt hv hz hzl hr suf (pre ++ [s]) hpre
    rw [hlen, List.filter_append] at ih
    have hle := List.length_filter_le (haltB c) pre
    apply qyo
    rw [q0e hd]
    simp only [cond_true, q0d (q17 hd)]
    rw [show Config.mk c.Members = c from rfl, qkq hv hs, q04 (by omega)]
    simp only [Option.bind_some]
    cases h : haltB c s with
    | true =>
      simp only [List.filter_cons, h, if_true, List.filter_nil, List.map_append] at ih
      simp only [cond_true]
      rw [q09 (by simp [q0g]; omega)]
      exact ih
    | false =>
      simp only [List.filter_cons, h, Bool.false_eq_true, if_false, List.filter_nil, List.append_nil] at ih
      exact ih
theorem qh3 {c : Config} (hv : ValidC c) : ∃ out, z21 c = some (out.map Int.ofNat) ∧ LeastOf (pick (haltB c) (2 ^ c.Members.length)) out := by
  have hp := pow10 hv.1
  have hp1 := Nat.two_pow_pos c.Members.length
  have hu : 2 ^ c.Members.length - 1 < 1024 := by omega
  have hm : ∀ s ∈ q2j (2 ^ c.Members.length - 1), s < 2 ^ c.Members.length := fun s hs => q1c.2 (q15.1 hs)
  have hol := qcs hu
  have hfl := List.length_filter_le (haltB c) (q2j (2 ^ c.Members.length - 1))
  obtain ⟨out, h1, h2⟩ := qks ((q2j (2 ^ c.Members.length - 1)).filter (haltB c)) (by omega) fun s hs => by have := hm s (List.mem_filter.1 hs).1; omega
  refine ⟨out, ?_, h2.of (Mins.perm fun s => ?_)⟩
  · apply y6c
    rw [q7j hv.1]
    simp only [Option.bind_some]
    rw [qg8 hu]
    simp only [Option.bind_some, List.length_map]
    exact qjt hv hm hol h1 _ [] rfl
  · rw [List.mem_filter, q0n, q15, q1c]
theorem q7f {c : Config} (hv : ValidC c) (h7 : c.Members.length ≤ 7) : ∃ out, z1x c = some (out.map Int.ofNat, 0) ∧ LeastOf (pick (q2l c) (2 ^ c.Members.length)) out := by
  obtain ⟨out, h1, h2⟩ := qh8 hv
  refine ⟨out, ?_, h2⟩
  apply qrp
  have hsm : z22 c = some 0 := by
    apply ql9
    rw [q4g hv.small, hv.cerr]
    simp only [Option.bind_some, q0h, cond_false]
    rw [q02 (by omega)]; rfl
  rw [hsm]
  simp only [Option.bind_some, q0h, cond_false]
  rw [h1]; rfl
theorem qa8 {c : Config} (hc : q13 c) (h : cerr c ≠ 0) : z1x c = some ([], cerr c) := by
  apply qrp
  have hsm : z22 c = some (cerr c) := by
    apply ql9
    rw [q4g hc]
    simp only [Option.bind_some]
    rw [q18 h]; rfl
  rw [hsm]
  simp only [Option.bind_some]
  rw [q18 h]; rfl
theorem qa1 {c : Config} (hv : ValidC c) (h7 : ¬ c.Members.length ≤ 7) : z1x c = some ([], 3) := by
  apply qrp
  have hsm : z22 c = some 3 := by
    apply ql9
    rw [q4g hv.small, hv.cerr]
    simp only [Option.bind_some, q0h, cond_false]
    rw [q05 (by omega)]; rfl
  rw [hsm]
  rfl
theorem q7l {c : Config} (hv : ValidC c) : ∃ out, z2o c = some (out.map Int.ofNat, 0) ∧ LeastOf (pick (haltB c) (2 ^ c.Members.length)) out := by
  obtain ⟨out, h1, h2⟩ := qh3 hv
  refine ⟨out, ?_, h2⟩
  apply qx8
  rw [q4g hv.small, hv.cerr]
  simp only [Option.bind_some, q0h, cond_false]
  rw [h1]; rfl
theorem qkc {c : Config} (hc : q13 c) (h : cerr c ≠ 0) : z2o c = some ([], cerr c) := by
  apply qx8
  rw [q4g hc]
  simp only [Option.bind_some]
  rw [q18 h]; rfl
theorem qrr {c : Config} (hv : ValidC c) {r : List Int} (hr : z3e ((pick (q2l c) (2 ^ c.Members.length)).map Int.ofNat) = some r) : ∀ (k i : Nat), i + k = 2 ^ c.Members.length →
    z2g ((pick (q2l c) i).map Int.ofNat) (i : Int) c.Members = some (r, 0)
  | 0, i, h => by
    have hp1 := Nat.two_pow_pos c.Members.length
    have : i = 2 ^ c.Members.length := by omega
    subst this
    apply qz7
    rw [show Config.mk c.Members = c from rfl, q4a hv.1]
    simp only [Option.bind_some]
    rw [q0a (by omega), hr]; rfl
  | k + 1, i, h => by
    have hp := pow10 hv.1
    have ih := qrr hv hr k (i + 1) (by omega)
    rw [q6f] at ih
    have hle := q3m (q2l c) i
    apply qz7
    rw [show Config.mk c.Members = c from rfl, q4a hv.1]
    simp only [Option.bind_some]
    rw [q0f (by omega), qhq hv.small, qp3 hv (by omega), q04 (by omega)]
    simp only [cond_true, Option.bind_some]
    cases hq : q2l c i with
    | true =>
      rw [if_pos hq, List.map_append] at ih
      rw [q09 (by simp [q0g]; omega)]
      exact ih
    | false =>
      rw [if_neg (by simp [hq])] at ih
      exact ih
theorem q9x {c : Config} (hc : q13 c) : ∃ (l : List Nat) (e : Int), z1x c = some (l.map Int.ofNat, e) ∧ z3c c = some (l.map Int.ofNat, e) ∧ l.length ≤ 1024 ∧ (e = 0 → ValidC c ∧ c.Members.length ≤ 7 ∧ LeastOf (pick (q2l c) (2 ^ c.Members.length)) l) := by
  by_cases he : cerr c = 0
  · have hv := q1y.1 he
    by_cases h7 : c.Members.length ≤ 7
    · have hp := pow10 hv.1
      obtain ⟨out, h1, h2⟩ := q7f hv h7
      obtain ⟨out', h3, h4⟩ := qc8 (pick (q2l c) (2 ^ c.Members.length)) (by have := q3m (q2l c) (2 ^ c.Members.length); omega) fun s hs => by have := (q0n.1 hs).1; omega
      have := LeastOf.unique h2 h4 fun _ => Iff.rfl
      subst this
      refine ⟨out, 0, h1, ?_, qct h2.1 (h2.lt fun s hs => by have := (q0n.1 hs).1; omega), fun _ => ⟨hv, h7, h2⟩⟩
      apply qv3
      rw [q52 hc, he]
      simp only [Option.bind_some, q0h, cond_false]
      rw [q02 (by omega)]
      have := qrr hv h3 (2 ^ c.Members.length) 0 (by omega)
      simpa [pick] using this
    · refine ⟨[], 3, qa1 hv h7, ?_, by simp, by simp⟩
      apply qv3
      rw [q52 hc, he]
      simp only [Option.bind_some, q0h, cond_false]
      rw [q05 (by omega)]; rfl
  · refine ⟨[], cerr c, qa8 hc he, ?_, by simp, fun h => absurd h he⟩
    apply qv3
    rw [q52 hc]
    simp only [Option.bind_some]
    rw [q18 he]; rfl
def minH (c : Config) (s : Nat) : Bool := haltB c s && (nodes s).all fun k => !haltB c (s - 2 ^ k)
theorem quq {c : Config} (hv : ValidC c) {s : Nat} (hs : s < 2 ^ c.Members.length) {acc : List Nat} (ha : acc.length ≤ 1024) {l : List Nat} (hl : l.length ≤ 10) (hm : ∀ k ∈ l, s.testBit k = true) {r : List Int × Int} (b0 : Bool)
    (hr : z28 ((if (b0 && l.all fun k => !haltB c (s - 2 ^ k)) then acc ++ [s] else acc).map Int.ofNat) ((s + 1 : Nat) : Int) c.Members = some r) : ∀ (suf pre : List Nat), l = pre ++ suf →
    z35 (acc.map Int.ofNat) (s : Int) (b0 && pre.all fun k => !haltB c (s - 2 ^ k)) (l.map Int.ofNat) ((l.length : Nat) : Int) ((pre.length : Nat) : Int) c.Members = some r
  | [], pre, e => by
    have hd := q4i e
    have hp := pow10 hv.1
    rw [List.append_nil] at e
    apply qya
    rw [q0l hd, ← e]
    simp only [cond_false]
    rw [q04 (by omega)]
    cases hb : (b0 && l.all fun k => !haltB c (s - 2 ^ k)) with
    | true =>
      rw [hb, if_pos rfl, List.map_append] at hr
      rw [q09 (by simp [q0g]; omega)]
      exact hr
    | false =>
      rw [hb, if_neg (by simp)] at hr
      exact hr
  | k :: suf, pre, e => by
    have hd := q4i e
    have hlt := q0k hd
    have hp := pow10 hv.1
    have hk := hm k (by rw [e]; simp)
    have hk10 := q3g (show s < 1024 by omega) hk
    have hge := Nat.ge_two_pow_of_testBit hk
    have hk1 := Nat.two_pow_pos k
    have hpre : l = (pre ++ [k]) ++ suf := by rw [e]; simp
    have hlen : (pre ++ [k]).length = pre.length + 1 := by simp
    have ih := quq hv hs ha hl hm b0 hr suf (pre ++ [k]) hpre
    rw [hlen, List.all_append] at ih
    simp only [List.all_cons, List.all_nil, Bool.and_true] at ih
    apply qya
    rw [q0e hd]
    simp only [cond_true, q0d (q17 hd)]
    rw [q0m (by omega), shl1 (by omega) (by omega), Int.toNat_natCast, q7q hge (by omega), show Config.mk c.Members = c from rfl, qfd hv.small, qis hv (by omega), q04 (by omega)]
    simp only [Option.bind_some]
    cases hh : haltB c (s - 2 ^ k) with
    | true =>
      rw [hh] at ih
      simp only [Bool.not_true, Bool.and_false] at ih
      exact ih
    | false =>
      rw [hh] at ih
      simp only [Bool.not_false, Bool.and_true] at ih
      exact ih
theorem qtj {c : Config} (hv : ValidC c) {r : List Int} (hr : z3e ((pick (minH c) (2 ^ c.Members.length)).map Int.ofNat) = some r) : ∀ (k i : Nat), i + k = 2 ^ c.Members.length →
    z28 ((pick (minH c) i).map Int.ofNat) (i : Int) c.Members = some (r, 0)
  | 0, i, h => by
    have hp1 := Nat.two_pow_pos c.Members.length
    have : i = 2 ^ c.Members.length := by omega
    subst this
    apply qz9
    rw [show Config.mk c.Members = c from rfl, q4a hv.1]
    simp only [Option.bind_some]
    rw [q0a (by omega), hr]; rfl
  | k + 1, i, h => by
    have hp := pow10 hv.1
    have ih := qtj hv hr k (i + 1) (by omega)
    rw [q6f] at ih
    have hle := q3m (minH c) i
    apply qz9
    rw [show Config.mk c.Members = c from rfl, q4a hv.1]
    simp only [Option.bind_some]
    rw [q0f (by omega), qfd hv.small, qis hv (by omega)]
    simp only [cond_true, Option.bind_some]
    cases hq : haltB c i with
    | false =>
      rw [q04 (by omega)]
      rw [if_neg (by simp [minH, hq])] at ih
      exact ih
    | true =>
      simp only [Bool.not_true, cond_false]
      rw [qje (by omega)]
      simp only [Option.bind_some, List.length_map]
      have hmin : minH c i = (true && (nodes i).all fun k => !haltB c (i - 2 ^ k)) := by simp [minH, hq]
      rw [hmin] at ih
      exact quq hv (by omega) (by omega) (q6o i) (fun k hk => (q2h.1 hk).1) true ih (nodes i) [] rfl
theorem qux {c : Config} {n : Nat} (s : Nat) : Mins (pick (minH c) n) s ↔ Mins (pick (haltB c) n) s := by
  refine y0r (fun s hs => ?_) (fun s hs => ?_) s
  · obtain ⟨h1, h2⟩ := q0n.1 hs
    simp only [minH, Bool.and_eq_true] at h2
    exact q0n.2 ⟨h1, h2.1⟩
  · obtain ⟨h1, h2⟩ := q0n.1 hs
    obtain ⟨y, g1, g2, g3⟩ := q4x (haltB c) _ s (Nat.lt_succ_self _) h2
    refine ⟨y, q0n.2 ⟨by have := q3p g1; omega, ?_⟩, g1⟩
    simp only [minH, g2, Bool.true_and, List.all_eq_true, Bool.not_eq_true']
    intro k hk
    cases hh : haltB c (y - 2 ^ k) with
    | false => rfl
    | true =>
      obtain ⟨q1, q2⟩ := qcu (q2h.1 hk).1
      have := g3 _ q2 hh
      omega
theorem qdz {c : Config} (hc : q13 c) : ∃ (l : List Nat) (e : Int), z2o c = some (l.map Int.ofNat, e) ∧ z51 c = some (l.map Int.ofNat, e) ∧ l.length ≤ 1024 ∧ (e = 0 → ValidC c ∧ LeastOf (pick (haltB c) (2 ^ c.Members.length)) l) := by
  by_cases he : cerr c = 0
  · have hv := q1y.1 he
    have hp := pow10 hv.1
    obtain ⟨out, h1, h2⟩ := q7l hv
    obtain ⟨out', h3, h4⟩ := qc8 (pick (minH c) (2 ^ c.Members.length)) (by have := q3m (minH c) (2 ^ c.Members.length); omega) fun s hs => by have := (q0n.1 hs).1; omega
    have := LeastOf.unique h2 h4 fun s => (qux s).symm
    subst this
    refine ⟨out, 0, h1, ?_, qct h2.1 (h2.lt fun s hs => by have := (q0n.1 hs).1; omega), fun _ => ⟨hv, h2⟩⟩
    apply qzt
    rw [q52 hc, he]
    simp only [Option.bind_some, q0h, cond_false]
    have := qtj hv h3 (2 ^ c.Members.length) 0 (by omega)
    simpa [pick] using this
  · refine ⟨[], cerr c, qkc hc he, ?_, by simp, fun h => absurd h he⟩
    apply qzt
    rw [q52 hc]
    simp only [Option.bind_some]
    rw [q18 he]; rfl
def tolr (n : Nat) : List Nat → Int
  | [] => (n : Int)
  | s :: _ => ((pc s : Nat) : Int) - 1
theorem qcp {s : Nat} (_h : s < 1024) : subI .i64 ((pc s : Nat) : Int) 1 = ((pc s : Nat) : Int) - 1 := by
  have := pc_le s
  rw [q1v (by omega) (by omega)]
theorem qtx {c : Config} {l : List Nat} (hl : ∀ s ∈ l, s < 1024) : z4f c (l.map Int.ofNat) = some (tolr c.Members.length l) := by
  apply y5y
  cases l with
  | nil => rfl
  | cons s r =>
    have hs := hl s (by simp)
    rw [List.length_map, q69]
    simp only [List.length_cons]
    rw [show ((r.length + 1 == 0) = false) by simp]
    simp only [cond_false]
    rw [q10 (by omega) (show ((s :: r).map Int.ofNat)[((0 : Int)).toNat]? = some (s : Int) by simp), qbt hs]
    simp only [Option.bind_some]
    rw [qcp hs]; rfl
theorem qm7 {l : List Nat} (hl : ∀ s ∈ l, s < 1024) (hll : l.length ≤ 1024) {a : Int} : ∀ (suf : List Nat) (i : Nat), l.drop i = suf → (∀ s ∈ suf, a ≤ ((pc s : Nat) : Int) - 1) →
    z37 a (l.map Int.ofNat) ((l.length : Nat) : Int) (i : Int) = some a
  | [], i, h, hm => by
    apply qos
    rw [q0l h]; rfl
  | s :: suf, i, h, hm => by
    have hlt := q0k h
    have hs := hl s (List.mem_of_mem_drop (by rw [h]; exact List.mem_cons_self))
    have ih := qm7 hl hll suf (i + 1) (q08 h) fun t ht => hm t (by simp [ht])
    apply qos
    rw [q0e h]
    simp only [cond_true, q0d (q17 h)]
    rw [q73 hs]
    simp only [Option.bind_some]
    rw [qcp hs, if_neg (by have := hm s (by simp); omega), q04 (by omega)]
    exact ih
theorem qm5 {n : Nat} (hn : n ≤ 10) {l : List Nat} (ho : l.Pairwise nlt) (hl : ∀ s ∈ l, s < 2 ^ n) (hll : l.length ≤ 1024) : z6f (l.map Int.ofNat) (n : Int) = some (tolr n l) := by
  have hp := pow10 hn
  apply y1z
  cases l with
  | nil =>
    apply qos
    rfl
  | cons s r =>
    have hs := hl s (by simp)
    have hpn : pc s ≤ n := by
      have := qcj (q1c.1 hs)
      rwa [q81 _ hn] at this
    rw [List.length_map]
    apply qos
    rw [q05 (by simp only [List.length_cons]; omega), q10 (by omega) (show ((s :: r).map Int.ofNat)[((0 : Int)).toNat]? = some (s : Int) by simp), q73 (by omega)]
    simp only [cond_true, Option.bind_some]
    rw [qcp (by omega), if_pos (by omega)]
    refine qm7 (fun t ht => by have := hl t ht; omega) hll r 1 rfl fun t ht => ?_
    rcases (List.pairwise_cons.1 ho).1 t ht with h | ⟨h, _⟩ <;> omega
theorem qbl {c : Config} (hv : ValidC c) (h7 : c.Members.length ≤ 7) {a b : List Nat} (ha : LeastOf (pick (q2l c) (2 ^ c.Members.length)) a) (hb : LeastOf (pick (haltB c) (2 ^ c.Members.length)) b) :
    z2y c = some (tolr c.Members.length a, tolr c.Members.length b, 0) := by
  have hp := pow10 hv.1
  obtain ⟨a', g1, g2⟩ := qh8 hv
  obtain ⟨b', g3, g4⟩ := qh3 hv
  have := LeastOf.unique ha g2 fun _ => Iff.rfl
  subst this
  have := LeastOf.unique hb g4 fun _ => Iff.rfl
  subst this
  apply qyx
  have hsm : z22 c = some 0 := by
    apply ql9
    rw [q4g hv.small, hv.cerr]
    simp only [Option.bind_some, q0h, cond_false]
    rw [q02 (by omega)]; rfl
  rw [hsm]
  simp only [Option.bind_some, q0h, cond_false]
  rw [g1]
  simp only [Option.bind_some]
  rw [qtx (ha.lt fun s hs => by have := (q0n.1 hs).1; omega)]
  simp only [Option.bind_some]
  rw [g3]
  simp only [Option.bind_some]
  rw [qtx (hb.lt fun s hs => by have := (q0n.1 hs).1; omega)]
  rfl
theorem qgp {c : Config} (hc : q13 c) : ∃ r : Int × Int × Int, z2y c = some r ∧ z4y c = some r := by
  obtain ⟨l, e, h1, h2, h3, h4⟩ := q9x hc
  by_cases he : e = 0
  · obtain ⟨hv, h7, hl⟩ := h4 he
    have hp := pow10 hv.1
    obtain ⟨m, e', k1, k2, k3, k4⟩ := qdz hc
    obtain ⟨out, q1, q2⟩ := q7l hv
    rw [q1] at k1
    have he' : e' = 0 := by injection k1 with k1; injection k1 with _ k1; exact k1.symm
    obtain ⟨_, hm⟩ := k4 he'
    refine ⟨_, qbl hv h7 hl hm, ?_⟩
    apply qx3
    rw [h2, he, k2]
    simp only [Option.bind_some, q0h, cond_false]
    rw [qm5 hv.1 hl.1 (fun s hs => (q0n.1 ((hl.2 s).1 hs).1).1) h3]
    simp only [Option.bind_some]
    rw [qm5 hv.1 hm.1 (fun s hs => (q0n.1 ((hm.2 s).1 hs).1).1) k3]
    rfl
  · refine ⟨(0, 0, e), ?_, ?_⟩
    · apply qyx
      have hsm : z22 c = some e := by
        apply ql9
        rw [q4g hc]
        simp only [Option.bind_some]
        by_cases hce : cerr c = 0
        · have hv := q1y.1 hce
          by_cases h7 : c.Members.length ≤ 7
          · obtain ⟨out, q1, q2⟩ := q7f hv h7
            rw [q1] at h1
            injection h1 with h1
            injection h1 with _ h1
            exact absurd h1.symm he
          · rw [qa1 hv h7] at h1
            injection h1 with h1
            injection h1 with _ h1
            subst h1
            rw [hce, q0h, q05 (by omega)]; rfl
        · rw [qa8 hc hce] at h1
          injection h1 with h1
          injection h1 with _ h1
          subst h1
          rw [q18 hce]; rfl
      rw [hsm]
      simp only [Option.bind_some]
      rw [q18 he]; rfl
    · apply qx3
      rw [h2]
      simp only [Option.bind_some]
      rw [q18 he]; rfl
end Go.Proofs.YtfjcndlhpfbcgaaGreat
