/- Dispensable sets, in both texts. -/
import Derived.Test.YtbmelgbadedbbaaGreatP14Pair
namespace Go.Proofs.YtbmelgbadedbbaaGreat
open Go Go.Ab Go.Sort
theorem y1m {a b : Int} (h : a = b) : neB a b = false := by rw [h, q0d]
theorem q3p {c : Config} (hn : c.Members.length ≤ 10) : z1i c = some ((full c : Nat) : Int) := by
 apply y53;rw [q0q (by omega), q3k hn]; rfl
theorem q3o {c : Config} (hn : c.Members.length ≤ 10) : z37 c = some ((full c : Nat) : Int) := by
 apply y5w;rw [q0q (by omega), q3k hn]; rfl
theorem qa2 {c : Config} {i : Nat} {m : Member} (h : c.Members[i]? = some m) (hi : i < 10) : (decl c).testBit i = m.Declared := by
 rw [Bool.eq_iff_iff, q2w];exact ⟨fun ⟨_, m', h1, h2⟩ => by rw [h] at h1; cases h1; exact h2, fun h2 => ⟨hi, m, h, h2⟩⟩
theorem qi5 {c : Config} {i : Nat} {m : Member} (h : c.Members[i]? = some m) : tr c i = m.Trust := by unfold tr; rw [h]; rfl
theorem ValidC.mem {c : Config} (h : ValidC c) {i : Nat} {m : Member} (hm : c.Members[i]? = some m) (hd : m.Declared = true) : valid m.Trust = true ∧ uses m.Trust < 2 ^ c.Members.length := by
 have := h.2 m (List.mem_of_getElem? hm);unfold MemV at this
 rwa [if_pos hd] at this
def impK (lo hi : Config) (k : Nat) : Bool := !(decl lo).testBit k || impB (tr hi k) (tr lo k)
def impsB (lo hi : Config) : Bool := (List.range' 0 lo.Members.length).all (impK lo hi)
def pairE (lo hi : Config) : Int :=
 if cerr lo ≠ 0 then cerr lo else if cerr hi ≠ 0 then cerr hi else if lo.Members.length ≠ hi.Members.length then 1 else if decl lo ≠ decl hi then 1
 else if 7 < lo.Members.length then 3 else if impsB lo hi = true then 0 else 14
theorem q1c {lo hi : Config} (h : pairE lo hi = 0) : ValidC lo ∧ ValidC hi ∧ lo.Members.length = hi.Members.length ∧ decl lo = decl hi ∧ lo.Members.length ≤ 7 := by
 unfold pairE at h;split at h
 ·rename_i h1; exact absurd h h1
 ·rename_i h1;split at h
  ·rename_i h2; exact absurd h h2
  ·rename_i h2;split at h
   ·cases h
   ·rename_i h3;split at h
    ·cases h
    ·rename_i h4;split at h
     ·cases h
     ·rename_i h5;exact ⟨q1g.1 (Classical.not_not.1 h1), q1g.1 (Classical.not_not.1 h2), Classical.not_not.1 h3, Classical.not_not.1 h4, by omega⟩
theorem qkr {lo hi : Config} (hv : ValidC lo) (hw : ValidC hi) (hl : lo.Members.length = hi.Members.length) (hd : decl lo = decl hi) : ∀ (n i : Nat), i + n = lo.Members.length →
  z1t hi.Members ((hi.Members.length : Nat) : Int) (i : Int) lo.Members hi.Members = some (if (List.range' i n).all (impK lo hi) = true then 0 else 14)
 | 0, i, h => by
  apply y02;rw [q00 (by omega)]; rfl
 | n + 1, i, h => by
  have hle := hv.1;have ih := qkr hv hw hl hd n (i + 1) (by omega)
  have g1 : lo.Members[i]? = some lo.Members[i] := List.getElem?_eq_getElem (by omega)
  have g2 : hi.Members[i]? = some (hi.Members[i]'(by omega)) := List.getElem?_eq_getElem (by omega)
  apply y02;rw [q03 (by omega)]
  simp only [cond_true];rw [q0v (by omega) (by rw [Int.toNat_natCast]; exact g2)]
  have e1 := qa2 g1 (by omega)
  have e2 := qa2 g2 (by omega)
  rw [hd, e2] at e1;rw [List.range'_succ, List.all_cons, q02 (by omega), ih]
  cases hdec : (hi.Members[i]'(by omega)).Declared with
  | false =>
   have : impK lo hi i = true := by unfold impK; rw [hd, e2, hdec]; rfl
   rw [this]; rfl
  | true =>
   rw [hdec] at e1;obtain ⟨z, hz⟩ := qs0 (hw.mem g2 hdec).1 (hv.mem g1 e1.symm).1;have : impK lo hi i = impB (hi.Members[i]'(by omega)).Trust lo.Members[i].Trust := by unfold impK; rw [hd, e2, hdec, qi5 g1, qi5 g2]; simp only [Bool.not_true, Bool.false_or]
   simp only [Bool.not_true, cond_false];rw [q0v (by omega) (by rw [Int.toNat_natCast]; exact g1), hz, this]
   simp only [Option.bind_some];cases impB (hi.Members[i]'(by omega)).Trust lo.Members[i].Trust <;> rfl
theorem qmu {lo hi : Config} (hs : q0l lo) (hs' : q0l hi) : z44 lo hi = some (pairE lo hi) := by
 have h1 := hs.1;have h2 := hs'.1;apply y6z;rw [qbf hs];simp only [Option.bind_some];unfold pairE;by_cases e1 : cerr lo = 0
 ·rw [e1, q0d, if_neg (by simp), qbf hs']
  simp only [cond_false, Option.bind_some];by_cases e2 : cerr hi = 0
  ·rw [e2, q0d, if_neg (by simp)]
   simp only [cond_false];by_cases e3 : lo.Members.length = hi.Members.length
   ·rw [e3, q0d, if_neg (by simp), q62 lo h1, q62 hi h2]
    simp only [cond_false, Option.bind_some];by_cases e4 : decl lo = decl hi
    ·rw [← e4, q0d, if_neg (by simp)]
     simp only [cond_false];by_cases e5 : 7 < hi.Members.length
     ·rw [q03 (by omega), if_pos e5]; rfl
     ·rw [q00 (by omega), if_neg e5]
      simp only [cond_false];have := qkr (q1g.1 e1) (q1g.1 e2) e3 e4 lo.Members.length 0 (by omega)
      exact this
    ·rw [q0s (by omega), if_pos e4]; rfl
   ·rw [q0s (by omega), if_pos e3]; rfl
  ·rw [q0s e2, if_pos e2]; rfl
 ·rw [q0s e1, if_pos e1]; rfl
def impN (n : Nat) (a b : Trust) : Bool := (List.range' 0 (2 ^ n)).all fun s => !sat s a || sat s b
theorem y25 {n : Nat} (hn : n ≤ 10) {a b : Trust} (ha : uses a < 2 ^ n) (hb : uses b < 2 ^ n) : impN n a b = impB a b := by
 rw [Bool.eq_iff_iff, qy2];unfold impN;rw [List.all_eq_true];have cut : ∀ (t : Trust) (s : Nat), uses t < 2 ^ n → sat (s &&& (2 ^ n - 1)) t = sat s t := fun t s ht => qrm t fun k hk => by
  obtain ⟨i, rfl, hi, hb⟩ := qmi hk;have := q1k.1 ht i hb;rw [q43 hi, q43 hi, Nat.testBit_and, this, Bool.and_true]
 constructor
 ·intro h s _ hsa;have hlt : s &&& (2 ^ n - 1) < 2 ^ n := by
   have := Nat.two_pow_pos n;have := Nat.and_le_right (n := s) (m := 2 ^ n - 1);omega
  have := h (s &&& (2 ^ n - 1)) (by rw [List.mem_range'_1]; omega)
  rw [cut a s ha, cut b s hb, hsa] at this;simpa using this
 ·intro h s hs;rw [List.mem_range'_1] at hs;have hp := pow10 hn;cases hsa : sat s a with
  | false => rfl
  | true => simp only [Bool.not_true, Bool.false_or]; exact h s (by omega) hsa
theorem qmq {lo hi : Config} (hv : ValidC lo) {k : Nat} {m m' : Member} (g1 : lo.Members[k]? = some m) (g2 : hi.Members[k]? = some m') (s1 : Small m.Trust) (s2 : Small m'.Trust) {len r : Int} (K : z2z len ((k + 1 : Nat) : Int) lo.Members hi.Members = some r) (hk : k < 100) : ∀ (j s : Nat), s + j = 2 ^ lo.Members.length →
  z3m (k : Int) (s : Int) len (k : Int) lo.Members hi.Members = some (if ((List.range' s j).all fun s => !sat s m'.Trust || sat s m.Trust) = true then r else 14)
 | 0, s, h => by
  apply qzj;rw [show Config.mk lo.Members = lo from rfl, q3o hv.1]
  simp only [Option.bind_some];have : full lo < s := by have := Nat.two_pow_pos lo.Members.length; unfold full; omega
  rw [q09 (by omega)]
  simp only [cond_false];rw [q02 (by omega)]
  exact K
 | j + 1, s, h => by
  have hp := pow10 hv.1;have ih := qmq hv g1 g2 s1 s2 K hk j (s + 1) (by omega)
  apply qzj;rw [show Config.mk lo.Members = lo from rfl, q3o hv.1]
  simp only [Option.bind_some];have : s ≤ full lo := by unfold full; omega
  rw [q0e (by omega)]
  simp only [cond_true];rw [q0v (by omega) (by rw [Int.toNat_natCast]; exact g2), q4p (by omega) m'.Trust s2]
  simp only [Option.bind_some];rw [q02 (by omega), ih, List.range'_succ, List.all_cons]
  cases hb : sat s m'.Trust with
  | false => rfl
  | true =>
   simp only [cond_true];rw [q0v (by omega) (by rw [Int.toNat_natCast]; exact g1), q4p (by omega) m.Trust s1]
   simp only [Option.bind_some];cases sat s m.Trust <;> rfl
theorem qmx {lo hi : Config} (hv : ValidC lo) (hw : ValidC hi) (hl : lo.Members.length = hi.Members.length) (hd : decl lo = decl hi) : ∀ (n i : Nat), i + n = lo.Members.length →
  z2z ((lo.Members.length : Nat) : Int) (i : Int) lo.Members hi.Members = some (if (List.range' i n).all (impK lo hi) = true then 0 else 14)
 | 0, i, h => by
  apply y0q;rw [q00 (by omega)]; rfl
 | n + 1, i, h => by
  have hle := hv.1;have ih := qmx hv hw hl hd n (i + 1) (by omega)
  have g1 : lo.Members[i]? = some lo.Members[i] := List.getElem?_eq_getElem (by omega)
  have g2 : hi.Members[i]? = some (hi.Members[i]'(by omega)) := List.getElem?_eq_getElem (by omega)
  apply y0q;rw [q03 (by omega)]
  simp only [cond_true];rw [q0v (by omega) (by rw [Int.toNat_natCast]; exact g1)]
  have e1 := qa2 g1 (by omega)
  have e2 := qa2 g2 (by omega)
  have e3 := e1;rw [hd, e2] at e1;rw [List.range'_succ, List.all_cons, q02 (by omega)]
  cases hdec : lo.Members[i].Declared with
  | false =>
   have : impK lo hi i = true := by unfold impK; rw [e3, hdec]; rfl
   rw [this, ih]; rfl
  | true =>
   rw [hdec] at e1;have m1 := hv.mem g1 hdec;have m2 := hw.mem g2 e1;have : impK lo hi i = impN lo.Members.length (hi.Members[i]'(by omega)).Trust lo.Members[i].Trust := by
    rw [y25 hv.1 (by rw [hl]; exact m2.2) m1.2]
    unfold impK; rw [e3, hdec, qi5 g1, qi5 g2]; simp only [Bool.not_true, Bool.false_or]
   simp only [Bool.not_true, cond_false];have key := qmq hv g1 g2 (q2z m1.1) (q2z m2.1) ih (by omega) (2 ^ lo.Members.length) 0 (by omega)
   rw [this];refine Eq.trans key ?_;rw [show ((List.range' 0 (2 ^ lo.Members.length)).all fun s => !sat s (hi.Members[i]'(by omega)).Trust || sat s lo.Members[i].Trust) = impN lo.Members.length (hi.Members[i]'(by omega)).Trust lo.Members[i].Trust from rfl]
   cases impN lo.Members.length (hi.Members[i]'(by omega)).Trust lo.Members[i].Trust with
   | false => rfl
   | true => simp only [Bool.true_and, if_true]
theorem qme {lo hi : Config} (hs : q0l lo) (hs' : q0l hi) : z5x lo hi = some (pairE lo hi) := by
 have h1 := hs.1;have h2 := hs'.1;apply y3z;rw [q7a hs];simp only [Option.bind_some];unfold pairE;by_cases e1 : cerr lo = 0
 ·rw [e1, q0d, if_neg (by simp), q7a hs']
  simp only [cond_false, Option.bind_some];by_cases e2 : cerr hi = 0
  ·rw [e2, q0d, if_neg (by simp)]
   simp only [cond_false];by_cases e3 : lo.Members.length = hi.Members.length
   ·rw [y1m (by rw [e3]), if_neg (by rw [e3]; simp), q3i lo h1, q3i hi h2]
    simp only [cond_false, Option.bind_some];by_cases e4 : decl lo = decl hi
    ·rw [y1m (by rw [e4]), if_neg (by rw [e4]; simp)]
     simp only [cond_false];by_cases e5 : 7 < lo.Members.length
     ·rw [q03 (by omega), if_pos e5]; rfl
     ·rw [q00 (by omega), if_neg e5]
      simp only [cond_false];exact qmx (q1g.1 e1) (q1g.1 e2) e3 e4 lo.Members.length 0 (by omega)
    ·rw [q0s (by omega), if_pos e4]; rfl
   ·rw [q0s (by omega), if_pos e3]; rfl
  ·rw [q0s e2, if_pos e2]; rfl
 ·rw [q0s e1, if_pos e1]; rfl
theorem qg6 {c : Config} (hc : q0l c) (z : Int) : z31 c z = some (askE c z) := by
 apply y6r;rw [qbf hc];simp only [Option.bind_some, askE];by_cases he : cerr c = 0
 ·rw [he, q0d];simp only [cond_false, ne_eq, not_true, if_false];by_cases h0 : z < 0
  ·rw [q03 h0, if_pos h0]; rfl
  ·rw [q00 (by omega), if_neg h0, q3p (q1g.1 he).1]
   simp only [cond_false, Option.bind_some, full];by_cases h1 : ((2 ^ c.Members.length - 1 : Nat) : Int) < z
   ·rw [q03 h1, if_pos h1]; rfl
   ·rw [q00 (by omega), if_neg h1]; rfl
 ·rw [q0s he];simp [he]
theorem qo9 {c : Config} (hv : ValidC c) (z : Int) : z61 c z = some (askE c z) := by
 apply y5d;unfold askE;rw [hv.cerr, if_neg (by simp)]
 by_cases h0 : z < 0
 ·rw [q03 h0, if_pos h0]; rfl
 ·rw [q00 (by omega), if_neg h0, q3o hv.1]
  simp only [cond_false, Option.bind_some, full];by_cases h1 : ((2 ^ c.Members.length - 1 : Nat) : Int) < z
  ·rw [q03 h1, if_pos h1]; rfl
  ·rw [q00 (by omega), if_neg h1]; rfl
def qhg (c : Config) (z : Int) : Bool × Int := if askE c z = 0 then (!q89 c z.toNat, 0) else (false, askE c z)
def avaR (c : Config) (z : Int) : Bool × Int := if askE c z = 0 then (qbh c z.toNat, 0) else (false, askE c z)
theorem qkq {c : Config} (hc : q0l c) (z : Int) : z2f c z = some (qhg c z) := by
 apply y5c;rw [qg6 hc];simp only [Option.bind_some, qhg];by_cases h : askE c z = 0
 ·obtain ⟨hv, s, rfl, hs⟩ := q8r h;rw [h, q0d, qnm (q2l hv.1 hs) c hv.bears];simp only [Option.bind_some, cond_false, if_true];rw [qw6 (q1w s hv).small (q1w s hv).cerr];rfl
 ·rw [q0s h, if_neg h]; rfl
theorem ql4 {c : Config} (hc : q0l c) (z : Int) : z4e c z = some (qhg c z) := by
 apply y75;rw [q7a hc];simp only [Option.bind_some, qhg];by_cases he : cerr c = 0
 ·rw [he, q0d, qo9 (q1g.1 he)];simp only [cond_false, Option.bind_some];by_cases h : askE c z = 0
  ·obtain ⟨hv, s, rfl, hs⟩ := q8r h;rw [h, q0d, q80 (q2l hv.1 hs) c hv.bears];simp only [Option.bind_some, cond_false, if_true];rw [qwb (q1w s hv).small (q1w s hv).cerr];rfl
  ·rw [q0s h, if_neg h]; rfl
 ·have h : askE c z = cerr c := by unfold askE; rw [if_pos he]
  rw [q0s he, h, if_neg he]; rfl
theorem qhq {c : Config} (hn : c.Members.length ≤ 10) {s : Nat} (hs : s < 2 ^ c.Members.length) : subI .i64 ((full c : Nat) : Int) ((s : Nat) : Int) = ((ndiff (full c) s : Nat) : Int) := by
 have := q9f hn;rw [qc0 (by unfold full; omega) (by omega)]
 unfold full;rw [qif hs]
theorem q7k {c : Config} (hn : c.Members.length ≤ 10) {s : Nat} (hs : s < 2 ^ c.Members.length) : q40 .i64 ((full c : Nat) : Int) ((s : Nat) : Int) = ((ndiff (full c) s : Nat) : Int) := by
 have := q9f hn;have := q2l hn hs;rw [q2y (by omega) (by omega)]
theorem ql1 {c : Config} (hc : q0l c) (z : Int) : z2q c z = some (avaR c z) := by
 apply y6n;rw [qg6 hc];simp only [Option.bind_some, avaR];by_cases h : askE c z = 0
 ·obtain ⟨hv, s, rfl, hs⟩ := q8r h;rw [h, q0d, q3p hv.1];simp only [Option.bind_some, cond_false, if_true];rw [q7k hv.1 hs, q5n, Int.toNat_natCast];unfold qbh;cases h0 : (ndiff (full c) s == 0) with
  | true => simp
  | false =>
   simp only [cond_false, Bool.false_or];rw [qa6 (qb0 hv.1 s) hv.small]; rfl
 ·rw [q0s h, if_neg h]; rfl
theorem qkc {c : Config} (hc : q0l c) (z : Int) : z4o c z = some (avaR c z) := by
 apply y6e;rw [q7a hc];simp only [Option.bind_some, avaR];by_cases he : cerr c = 0
 ·rw [he, q0d, qo9 (q1g.1 he)];simp only [cond_false, Option.bind_some];by_cases h : askE c z = 0
  ·obtain ⟨hv, s, rfl, hs⟩ := q8r h;rw [h, q0d, q3o hv.1];simp only [Option.bind_some, cond_false, if_true];rw [qhq hv.1 hs, q5n, Int.toNat_natCast];unfold qbh;cases h0 : (ndiff (full c) s == 0) with
   | true => simp
   | false =>
    simp only [cond_false, Bool.false_or];rw [qcs (qb0 hv.1 s) hv.small]; rfl
  ·rw [q0s h, if_neg h]; rfl
 ·have h : askE c z = cerr c := by unfold askE; rw [if_pos he]
  rw [q0s he, h, if_neg he]; rfl
def dE (lo hi : Config) (z : Int) : Int := if pairE lo hi = 0 then askE lo z else pairE lo hi
theorem qee {lo hi : Config} (hs : q0l lo) (hs' : q0l hi) (z : Int) : z2s lo hi z = some (dE lo hi z) := by
 apply y5a;rw [qmu hs hs'];simp only [Option.bind_some, dE];by_cases h : pairE lo hi = 0
 ·rw [h, q0d, qg6 hs]; rfl
 ·rw [q0s h, if_neg h]; rfl
theorem qbj {lo hi : Config} (hs : q0l lo) (hs' : q0l hi) (z : Int) : z4y lo hi z = some (dE lo hi z) := by
 apply y3y;rw [qme hs hs'];simp only [Option.bind_some, dE];by_cases h : pairE lo hi = 0
 ·rw [h, q0d, qo9 (q1c h).1]; rfl
 ·rw [q0s h, if_neg h]; rfl
theorem q7x {lo hi : Config} {z : Int} (h : dE lo hi z = 0) : pairE lo hi = 0 ∧ ∃ s : Nat, z = (s : Int) ∧ s < 2 ^ lo.Members.length := by
 unfold dE at h;split at h
 ·rename_i h1; exact ⟨h1, (q8r h).2⟩
 ·rename_i h1; exact absurd h h1
theorem qza {lo hi : Config} (h : pairE lo hi = 0) {s : Nat} (hs : s < 2 ^ lo.Members.length) : dE lo hi (s : Int) = 0 := by
 unfold dE; rw [if_pos h, qjw (q1c h).1 hs]
theorem qi4 {c : Config} (hv : ValidC c) {s : Nat} (hs : s < 2 ^ c.Members.length) : qhg c (s : Int) = (!q89 c s, 0) := by
 unfold qhg; rw [if_pos (qjw hv hs)]; rfl
theorem qr0 {c : Config} (hv : ValidC c) {s : Nat} (hs : s < 2 ^ c.Members.length) : avaR c (s : Int) = (qbh c s, 0) := by
 unfold avaR; rw [if_pos (qjw hv hs)]; rfl
theorem y1v {lo hi : Config} (h : pairE lo hi = 0) {s : Nat} (hs : s < 2 ^ lo.Members.length) : z51 lo hi (s : Int) = some (isB lo hi s) := by
 obtain ⟨hv, hw, hl, _, _⟩ := q1c h;apply y5n;rw [ql1 hw.small, qr0 hw (by rw [← hl]; exact hs)]
 simp only [Option.bind_some, isB];cases qbh hi s with
 | false => rfl
 | true =>
  simp only [Bool.not_true, cond_false, Bool.true_and];rw [qkq hv.small, qi4 hv hs]; rfl
theorem y1u {lo hi : Config} (h : pairE lo hi = 0) {s : Nat} (hs : s < 2 ^ lo.Members.length) : z6l lo hi (s : Int) = some (isB lo hi s) := by
 obtain ⟨hv, hw, hl, _, _⟩ := q1c h;apply y4e;rw [qkc hw.small, qr0 hw (by rw [← hl]; exact hs)]
 simp only [Option.bind_some, isB];cases qbh hi s with
 | false => rfl
 | true =>
  simp only [Bool.not_true, cond_false, Bool.true_and];rw [ql4 hv.small, qi4 hv hs]; rfl
def isR (lo hi : Config) (z : Int) : Bool × Int := if dE lo hi z = 0 then (isB lo hi z.toNat, 0) else (false, dE lo hi z)
theorem y3s {lo hi : Config} (hs : q0l lo) (hs' : q0l hi) (z : Int) : z5k lo hi z = some (isR lo hi z) := by
 apply y7u;rw [qee hs hs'];simp only [Option.bind_some, isR];by_cases h : dE lo hi z = 0
 ·obtain ⟨h0, s, rfl, hlt⟩ := q7x h;rw [h, q0d, y1v h0 hlt]; rfl
 ·rw [q0s h, if_neg h]; rfl
theorem y7g {lo hi : Config} (hs : q0l lo) (hs' : q0l hi) (z : Int) : z6s lo hi z = some (isR lo hi z) := by
 apply y5x;rw [qbj hs hs'];simp only [Option.bind_some, isR];by_cases h : dE lo hi z = 0
 ·obtain ⟨h0, s, rfl, hlt⟩ := q7x h;rw [h, q0d, y1u h0 hlt]; rfl
 ·rw [q0s h, if_neg h]; rfl
theorem qrx {a b : Nat} : (a &&& b == b) = (ndiff b a == 0) := by
 rw [Bool.eq_iff_iff, beq_iff_eq, beq_iff_eq, q3r];constructor
 ·intro h i hi;rw [← h, Nat.testBit_and, Bool.and_eq_true] at hi; exact hi.1
 ·intro h;exact (Sub.and_right a b).antisymm fun i hi => by rw [Nat.testBit_and, h i hi, hi]; rfl
theorem qyg (a b : Nat) : eqB (a : Int) (b : Int) = (a == b) := by
 by_cases h : a = b
 ·rw [h, q0p]; simp
 ·rw [q0t (by omega)]; simp [h]
theorem qw0 {lo hi : Config} (h : pairE lo hi = 0) {ill : Nat} (hill : ill < 2 ^ lo.Members.length) {l : List Nat} (hl : l.length ≤ 1024) (hm : ∀ s ∈ l, s < 2 ^ lo.Members.length) : ∀ (suf pre : List Nat), l = pre ++ suf →
  z1s (ill : Int) ((pre.filter fun b => ndiff ill b == 0 && isB lo hi b).map Int.ofNat) (l.map Int.ofNat) ((l.length : Nat) : Int) ((pre.length : Nat) : Int) lo.Members hi.Members = some ((l.filter fun b => ndiff ill b == 0 && isB lo hi b).map Int.ofNat, 0)
 | [], pre, e => by
  rw [List.append_nil] at e;subst e;apply qzi;rw [q00 (Int.le_refl _)]; rfl
 | b :: suf, pre, e => by
  have hn := (q1c h).1.1;have hd : (l.map Int.ofNat).drop pre.length = (b : Int) :: suf.map Int.ofNat := q2j (by rw [e]; simp)
  have hlt : pre.length < l.length := by rw [e]; simp
  have hb := hm b (by rw [e]; simp)
  have hb' := q2l hn hb;have hi' := q2l hn hill;have hfl := List.length_filter_le (fun b => ndiff ill b == 0 && isB lo hi b) pre
  have ih := qw0 h hill hl hm suf (pre ++ [b]) (by rw [e]; simp)
  rw [List.filter_append, List.map_append, List.length_append] at ih;apply qzi;rw [q03 (by omega)]
  simp only [cond_true, q08 hd];rw [q2y (by omega) (by omega), q5n, q02 (by omega)]
  cases h1 : (ndiff ill b == 0) with
  | false =>
   rw [List.filter_cons, h1] at ih;simp only [Bool.false_and, Bool.false_eq_true, if_false, List.filter_nil, List.map_nil, List.append_nil] at ih;exact ih
  | true =>
   simp only [cond_true];rw [show Config.mk lo.Members = lo from rfl, show Config.mk hi.Members = hi from rfl, y1v h hb]
   simp only [Option.bind_some];cases h2 : isB lo hi b with
   | false =>
    rw [List.filter_cons, h1, h2] at ih;simp only [Bool.true_and, Bool.false_eq_true, if_false, List.filter_nil, List.map_nil, List.append_nil] at ih;exact ih
   | true =>
    rw [List.filter_cons, h1, h2] at ih;simp only [Bool.true_and, if_true, List.filter_nil] at ih;rw [q06 (by simp [q0f]; omega)]
    exact ih
theorem qvh {lo hi : Config} (h : pairE lo hi = 0) {ill : Nat} (hill : ill < 2 ^ lo.Members.length) {l : List Nat} (hl : l.length ≤ 1024) (hm : ∀ s ∈ l, s < 2 ^ lo.Members.length) : ∀ (suf pre : List Nat), l = pre ++ suf →
  z3y (ill : Int) ((pre.filter fun b => ndiff ill b == 0 && isB lo hi b).map Int.ofNat) (l.map Int.ofNat) ((l.length : Nat) : Int) ((pre.length : Nat) : Int) lo.Members hi.Members = some ((l.filter fun b => ndiff ill b == 0 && isB lo hi b).map Int.ofNat, 0)
 | [], pre, e => by
  rw [List.append_nil] at e;subst e;apply y1t;rw [q00 (Int.le_refl _)]; rfl
 | b :: suf, pre, e => by
  have hn := (q1c h).1.1;have hd : (l.map Int.ofNat).drop pre.length = (b : Int) :: suf.map Int.ofNat := q2j (by rw [e]; simp)
  have hlt : pre.length < l.length := by rw [e]; simp
  have hb := hm b (by rw [e]; simp)
  have hb' := q2l hn hb;have hi' := q2l hn hill;have hfl := List.length_filter_le (fun b => ndiff ill b == 0 && isB lo hi b) pre
  have ih := qvh h hill hl hm suf (pre ++ [b]) (by rw [e]; simp)
  rw [List.filter_append, List.map_append, List.length_append] at ih;apply y1t;rw [q03 (by omega)]
  simp only [cond_true, q08 hd];rw [q3u (by omega) (by omega), qyg, qrx, q02 (by omega)]
  cases h1 : (ndiff ill b == 0) with
  | false =>
   rw [List.filter_cons, h1] at ih;simp only [Bool.false_and, Bool.false_eq_true, if_false, List.filter_nil, List.map_nil, List.append_nil] at ih;exact ih
  | true =>
   simp only [cond_true];rw [show Config.mk lo.Members = lo from rfl, show Config.mk hi.Members = hi from rfl, y1u h hb]
   simp only [Option.bind_some];cases h2 : isB lo hi b with
   | false =>
    rw [List.filter_cons, h1, h2] at ih;simp only [Bool.true_and, Bool.false_eq_true, if_false, List.filter_nil, List.map_nil, List.append_nil] at ih;exact ih
   | true =>
    rw [List.filter_cons, h1, h2] at ih;simp only [Bool.true_and, if_true, List.filter_nil] at ih;rw [q06 (by simp [q0f]; omega)]
    exact ih
def allR (lo hi : Config) (z : Int) : List Int × Int := if dE lo hi z = 0 then ((alls lo hi z.toNat).map Int.ofNat, 0) else ([], dE lo hi z)
theorem qf9 {c : Config} {s : Nat} (h : s ∈ q1j (full c)) : s < 2 ^ c.Members.length := qna.2 (q0x.1 h)
theorem qun {lo hi : Config} (hs : q0l lo) (hs' : q0l hi) (z : Int) : z3p lo hi z = some (allR lo hi z) := by
 apply y5g;rw [qee hs hs'];simp only [Option.bind_some, allR];by_cases h : dE lo hi z = 0
 ·obtain ⟨h0, s, rfl, hlt⟩ := q7x h;have hn := (q1c h0).1.1;rw [h, q0d, q3p hn];simp only [cond_false, Option.bind_some];rw [qou (q9f hn)];simp only [Option.bind_some, List.length_map];exact qw0 h0 hlt (q9o (q9f hn)) (fun s hs => qf9 hs) _ [] rfl
 ·rw [q0s h, if_neg h]; rfl
theorem y3f {lo hi : Config} (hs : q0l lo) (hs' : q0l hi) (z : Int) : z6q lo hi z = some (allR lo hi z) := by
 apply y6t;rw [qbj hs hs'];simp only [Option.bind_some, allR];by_cases h : dE lo hi z = 0
 ·obtain ⟨h0, s, rfl, hlt⟩ := q7x h;have hn := (q1c h0).1.1;rw [h, q0d, q3o hn];simp only [cond_false, Option.bind_some];rw [qg5 (q9f hn)];simp only [Option.bind_some, List.length_map];exact qvh h0 hlt (q9o (q9f hn)) (fun s hs => qf9 hs) _ [] rfl
 ·rw [q0s h, if_neg h]; rfl
theorem qxf {lo hi : Config} (h : pairE lo hi = 0) {s : Nat} (hs : s < 2 ^ lo.Members.length) : allR lo hi (s : Int) = ((alls lo hi s).map Int.ofNat, 0) := by
 unfold allR; rw [if_pos (qza h hs)]; rfl
theorem qxg {lo hi : Config} (hn : lo.Members.length ≤ 10) (ill : Nat) : (alls lo hi ill).length ≤ 1024 :=
 Nat.le_trans (List.length_filter_le _ _) (q9o (q9f hn))
theorem qpb {hi : Config} (hw : ValidC hi) {v s : Nat} (hv : v < hi.Members.length) (hs : s < 2 ^ hi.Members.length) : z43 hi (v : Int) (s : Int) = some (q46 hi s v) := by
 have g : hi.Members[v]? = some hi.Members[v] := List.getElem?_eq_getElem hv;have hle := hw.1;have e := qa2 g (by omega)
 apply y4r;rw [q0v (by omega) (by rw [Int.toNat_natCast]; exact g)]
 unfold q46;rw [e, qi5 g];cases hd : hi.Members[v].Declared with
 | false => rfl
 | true =>
  simp only [Bool.not_true, cond_false, Bool.false_or];rw [q3p hle];simp only [Option.bind_some];rw [q7k hle hs, q3v (qb0 hle s) _ (q2z (hw.mem g hd).1)]; rfl
def qmo (hi : Config) (s : Nat) (k : Int) : Bool := has (ndiff (full hi) s) k && q46 hi s k.toNat
theorem qpy {hi : Config} (hw : ValidC hi) {s : Nat} (hs : s < 2 ^ hi.Members.length) (k : Int) : z5w hi (s : Int) k = some (qmo hi s k) := by
 have hle := hw.1;have hs' := q2l hle hs;apply y82;unfold qmo;by_cases h0 : k < 0
 ·rw [q03 h0];have : has (ndiff (full hi) s) k = false := by unfold has; rw [decide_eq_false (by omega)]; rfl
  rw [this]; rfl
 ·obtain ⟨v, rfl⟩ := Int.eq_ofNat_of_zero_le (show 0 ≤ k by omega)
  rw [q00 (by omega)]
  by_cases h1 : hi.Members.length ≤ v
  ·rw [q0e (by omega)]
   have : has (ndiff (full hi) s) (v : Int) = false := by
    cases hh : has (ndiff (full hi) s) (v : Int) with
    | false => rfl
    | true =>
     obtain ⟨n, e, _, hb⟩ := qmi hh;rw [q07, Bool.and_eq_true, q9w, decide_eq_true_eq] at hb;have := Int.ofNat.inj e; omega
   rw [this]; rfl
  ·have hv : v < hi.Members.length := by omega
   have hfv : (full hi).testBit v = true := by rw [q9w, decide_eq_true_eq]; exact hv
   have g : hi.Members[v]? = some hi.Members[v] := List.getElem?_eq_getElem hv;have e := qa2 g (by omega)
   rw [q09 (by omega), q1y hs', q43 (by omega), q43 (by omega), q07, hfv]
   simp only [cond_false, Option.bind_some, Int.toNat_natCast, Bool.true_and];cases hb : s.testBit v with
   | true => rfl
   | false =>
    simp only [cond_false, Bool.not_false, Bool.true_and];rw [q0v (by omega) (by rw [Int.toNat_natCast]; exact g)]
    unfold q46;rw [e, qi5 g];cases hd : hi.Members[v].Declared with
    | false => rfl
    | true =>
     simp only [Bool.not_true, cond_false, Bool.false_or];rw [q0v (by omega) (by rw [Int.toNat_natCast]; exact g), q3o hle]
     simp only [Option.bind_some];rw [qhq hle hs, q4p (qb0 hle s) _ (q2z (hw.mem g hd).1)]; rfl
def refT (r : Int × Int × Int × Int) : Refutation × Int := (⟨r.1, r.2.1, r.2.2.1⟩, r.2.2.2)
def refuR (lo hi : Config) (z : Int) : Refutation × Int := if dE lo hi z = 0 then refT (refR lo hi z.toNat) else (⟨0, 0, 0⟩, dE lo hi z)
theorem qqi {lo hi : Config} (_hv : ValidC lo) {s : Nat} (h : (nodes (ndiff (full hi) s)).find? (q46 hi s) = none) (e : Int) :
  (bif neB (disjR (delC s lo)).2.2 0 then some (Refutation.mk 0 0 0, if e = 0 then (disjR (delC s lo)).2.2 else 11) else some (Refutation.mk (-1) (disjR (delC s lo)).1 (disjR (delC s lo)).2.1, 0)) = some (refT (refR lo hi s)) := by
 unfold refR refT disjR;rw [h];cases twoB (delC s lo) with
 | true => rfl
 | false =>
  simp only [Bool.false_eq_true, if_false];rw [q0s (by decide)]
  simp
theorem qvw {lo hi : Config} (h : pairE lo hi = 0) {s : Nat} (hs : s < 2 ^ lo.Members.length) {d1 d2 d3 : Int} {l : List Nat} (hl : l.length ≤ 10) (hall : (l.find? (q46 hi s)) = (nodes (ndiff (full hi) s)).find? (q46 hi s)) (hm : ∀ v ∈ l, v < hi.Members.length) : ∀ (suf : List Nat) (i : Nat), l.drop i = suf → suf.find? (q46 hi s) = l.find? (q46 hi s) →
  z23 (s : Int) (l.map Int.ofNat) ((l.length : Nat) : Int) (i : Int) lo.Members hi.Members d1 d2 d3 = some (refT (refR lo hi s))
 | [], i, hd, hf => by
  obtain ⟨hv, hw, hlen, _, _⟩ := q1c h;have hno : (nodes (ndiff (full hi) s)).find? (q46 hi s) = none := by rw [← hall, ← hf]; rfl
  apply y0r;rw [q0j hd, show Config.mk lo.Members = lo from rfl, qnm (q2l hv.1 hs) lo hv.bears]
  simp only [cond_false, Option.bind_some];rw [ql0 (q1w s hv).small (q1w s hv).cerr];simp only [Option.bind_some];have := qqi hv hno 0;simpa using this
 | v :: suf, i, hd, hf => by
  obtain ⟨hv, hw, hlen, _, _⟩ := q1c h;have hlt := q0i hd;have hvm := hm v (List.mem_of_mem_drop (by rw [hd]; exact List.mem_cons_self))
  apply y0r;rw [q0a hd];simp only [cond_true, q08 (q2j hd)];rw [show Config.mk hi.Members = hi from rfl, qpb hw hvm (by rw [← hlen]; exact hs)]
  simp only [Option.bind_some];cases hn : q46 hi s v with
  | true =>
   have : (nodes (ndiff (full hi) s)).find? (q46 hi s) = some v := by rw [← hall, ← hf, List.find?_cons, hn]
   unfold refR refT;rw [this]; rfl
  | false =>
   simp only [cond_false];rw [q02 (by omega)]
   exact qvw h hs hl hall hm suf (i + 1) (q04 hd) (by rw [← hf, List.find?_cons, hn])
theorem qih {lo hi : Config} (hs : q0l lo) (hs' : q0l hi) (z : Int) : z2r lo hi z = some (refuR lo hi z) := by
 apply y7q;rw [qee hs hs'];simp only [Option.bind_some, refuR];by_cases h : dE lo hi z = 0
 ·obtain ⟨h0, s, rfl, hlt⟩ := q7x h;obtain ⟨hv, hw, hlen, _, _⟩ := q1c h0;rw [h, q0d, q3p hw.1];simp only [cond_false, Option.bind_some, if_true, Int.toNat_natCast];rw [q7k hw.1 (by rw [← hlen]; exact hlt), qgf (qb0 hw.1 s)]
  simp only [Option.bind_some, List.length_map];exact qvw h0 hlt (q74 _) rfl (fun v hv => by
   have := (q2s.1 hv).1;rw [q07, Bool.and_eq_true, q9w, decide_eq_true_eq] at this;exact this.1) _ 0 rfl rfl
 ·rw [q0s h, if_neg h]; rfl
theorem qs8 {hi : Config} (hn : hi.Members.length ≤ 10) (s : Nat) (p : Nat → Bool) : (nodes (ndiff (full hi) s)).find? p = (List.range' 0 hi.Members.length).find? fun v => (ndiff (full hi) s).testBit v && p v := by
 rw [qg8, List.find?_filter, List.range_eq_range'];have e10 : hi.Members.length + (10 - hi.Members.length) = 10 := by omega
 have key := List.range'_append (s := 0) (m := hi.Members.length) (n := 10 - hi.Members.length) (step := 1);rw [e10] at key;rw [← key, List.find?_append];have : (List.range' (0 + 1 * hi.Members.length) (10 - hi.Members.length)).find? (fun a => decide ((ndiff (full hi) s).testBit a = true ∧ p a = true)) = none := by
  rw [List.find?_eq_none];intro v hv;rw [List.mem_range'_1] at hv;have : (ndiff (full hi) s).testBit v = false := by rw [q07, q9w, decide_eq_false (by omega)]; rfl
  simp [this]
 rw [this, Option.or_none];congr 1
 funext v
 cases (ndiff (full hi) s).testBit v <;> cases p v <;> rfl
theorem quz {lo hi : Config} (h : pairE lo hi = 0) {s : Nat} (hs : s < 2 ^ lo.Members.length) {d1 d2 d3 : Int} : ∀ (n i : Nat), i + n = hi.Members.length → (List.range' i n).find? (fun v => (ndiff (full hi) s).testBit v && q46 hi s v) = (nodes (ndiff (full hi) s)).find? (q46 hi s) →
  z3x (s : Int) ((hi.Members.length : Nat) : Int) (i : Int) lo.Members hi.Members d1 d2 d3 = some (refT (refR lo hi s))
 | 0, i, hn, hf => by
  obtain ⟨hv, hw, hlen, _, _⟩ := q1c h;apply qzt;rw [q00 (by omega), show Config.mk lo.Members = lo from rfl, q80 (q2l hv.1 hs) lo hv.bears]
  simp only [cond_false, Option.bind_some];rw [qm9 (q1w s hv).small (q1w s hv).cerr];simp only [Option.bind_some];have := qqi hv (s := s) (hi := hi) (by rw [← hf]; rfl) 1
  simpa using this
 | n + 1, i, hn, hf => by
  obtain ⟨hv, hw, hlen, _, _⟩ := q1c h;have hle := hw.1;apply qzt;rw [q03 (by omega)]
  simp only [cond_true];rw [show Config.mk hi.Members = hi from rfl, qpy hw (by rw [← hlen]; exact hs)]
  simp only [Option.bind_some];have hst : qmo hi s (i : Int) = ((ndiff (full hi) s).testBit i && q46 hi s i) := by unfold qmo; rw [q43 (by omega), Int.toNat_natCast]
  rw [hst];rw [List.range'_succ, List.find?_cons] at hf;cases hb : ((ndiff (full hi) s).testBit i && q46 hi s i) with
  | true =>
   rw [hb] at hf;unfold refR refT;rw [← hf]; rfl
  | false =>
   rw [hb] at hf;simp only [cond_false];rw [q02 (by omega)]
   exact quz h hs n (i + 1) (by omega) hf
theorem qsf {lo hi : Config} (hs : q0l lo) (hs' : q0l hi) (z : Int) : z64 lo hi z = some (refuR lo hi z) := by
 apply y4h;rw [qbj hs hs'];simp only [Option.bind_some, refuR];by_cases h : dE lo hi z = 0
 ·obtain ⟨h0, s, rfl, hlt⟩ := q7x h;obtain ⟨hv, hw, hlen, _, _⟩ := q1c h0;rw [h, q0d];simp only [cond_false, if_true, Int.toNat_natCast];exact quz h0 hlt hi.Members.length 0 (by omega) (qs8 hw.1 s _).symm
 ·rw [q0s h, if_neg h]; rfl
theorem qqt {c : Config} (hc : q0l c) (z : Int) : z2g c z = some (quoZ c z) := by
 unfold quoZ;cases h : okS z with
 | true =>
  obtain ⟨s, rfl, hs⟩ := qpu h;rw [qa6 hs hc]; rfl
 | false =>
  apply qzc;rw [q5m, h]; rfl
theorem qp5 {c : Config} (hc : q0l c) (z : Int) : z22 c z = some (quoZ c z) := by
 unfold quoZ;cases h : okS z with
 | true =>
  obtain ⟨s, rfl, hs⟩ := qpu h;rw [qcs hs hc]; rfl
 | false =>
  apply qqn;rw [qew, h]; rfl
theorem ql2 {c : Config} {a b : Int} (ha : quoZ c a = true) (hb : quoZ c b = true) : eqB (andI .i64 a b) 0 = (a.toNat &&& b.toNat == 0) := by
 obtain ⟨s, rfl, hs⟩ := que ha;obtain ⟨t, rfl, ht⟩ := que hb;have := qr3 hs;have := qr3 ht;rw [q3u (by omega) (by omega), q5n]; rfl
def chkR (lo hi : Config) (z : Int) (x : Refutation) : Bool := dE lo hi z == 0 && chkB lo hi z.toNat x.Node x.A x.B
theorem qxk {hi : Config} {s : Nat} {x : Int} (h : has (ndiff (full hi) s) x = true) : ∃ v : Nat, x = (v : Int) ∧ v < hi.Members.length := by
 obtain ⟨v, rfl, _, hb⟩ := qmi h;rw [q07, Bool.and_eq_true, q9w, decide_eq_true_eq] at hb;exact ⟨v, rfl, hb.1⟩
theorem qmc {lo hi : Config} (hs : q0l lo) (hs' : q0l hi) (z : Int) (x : Refutation) : z30 lo hi z x = some (chkR lo hi z x) := by
 apply y6m;rw [qee hs hs'];simp only [Option.bind_some, chkR];by_cases h : dE lo hi z = 0
 ·obtain ⟨h0, s, rfl, hlt⟩ := q7x h;obtain ⟨hv, hw, hlen, _, _⟩ := q1c h0;rw [h, q0d];simp only [cond_false, beq_self_eq_true, Bool.true_and, Int.toNat_natCast, chkB];by_cases hx : 0 ≤ x.Node
  ·rw [q0e hx, if_pos hx];simp only [cond_true];by_cases hA : x.A = 0
   ·rw [hA, q0p];by_cases hB : x.B = 0
    ·rw [hB, q0p, q3p hw.1];simp only [cond_true, Option.bind_some, decide_true, Bool.true_and];rw [q7k hw.1 (by rw [← hlen]; exact hlt), q26 (qb0 hw.1 s)]
     simp only [Option.bind_some];cases hh : has (ndiff (full hi) s) x.Node with
     | false => rfl
     | true =>
      obtain ⟨v, ev, hvm⟩ := qxk hh;rw [ev, qpb hw hvm (by rw [← hlen]; exact hlt)]; rfl
    ·rw [q0t hB, decide_eq_false hB]; rfl
   ·rw [q0t hA, decide_eq_false hA]; rfl
  ·rw [q09 (by omega), if_neg hx, qnm (q2l hv.1 hlt) lo hv.bears]
   simp only [cond_false, Option.bind_some];by_cases h1 : x.Node = -1
   ·rw [h1, q0p, qqt (q1w s hv).small, qqt (q1w s hv).small];simp only [cond_true, Option.bind_some, decide_true, Bool.true_and];cases hA : quoZ (delC s lo) x.A with
    | false => rfl
    | true =>
     simp only [cond_true, Bool.true_and];cases hB : quoZ (delC s lo) x.B with
     | false => rfl
     | true => simp only [cond_true, Bool.true_and, ql2 hA hB]
   ·rw [q0t h1, decide_eq_false h1]; rfl
 ·rw [q0s h, beq_eq_false_iff_ne.2 h]; rfl
theorem qwi {lo hi : Config} (hs : q0l lo) (hs' : q0l hi) (z : Int) (x : Refutation) : z6b lo hi z x = some (chkR lo hi z x) := by
 apply y5l;rw [qbj hs hs'];simp only [Option.bind_some, chkR];by_cases h : dE lo hi z = 0
 ·obtain ⟨h0, s, rfl, hlt⟩ := q7x h;obtain ⟨hv, hw, hlen, _, _⟩ := q1c h0;rw [h, q0d];simp only [cond_false, beq_self_eq_true, Bool.true_and, Int.toNat_natCast, chkB];by_cases h1 : x.Node = -1
  ·rw [h1, q0d, if_neg (by decide), q80 (q2l hv.1 hlt) lo hv.bears]
   simp only [cond_false, Option.bind_some];rw [qp5 (q1w s hv).small, qp5 (q1w s hv).small];simp only [Option.bind_some, decide_true, Bool.true_and];cases hA : quoZ (delC s lo) x.A with
   | false => rfl
   | true =>
    simp only [cond_true, Bool.true_and];cases hB : quoZ (delC s lo) x.B with
    | false => rfl
    | true => simp only [cond_true, Bool.true_and, ql2 hA hB]
  ·rw [q0s h1, qpy hw (by rw [← hlen]; exact hlt)]
   simp only [cond_true, Option.bind_some];unfold qmo;by_cases hx : 0 ≤ x.Node
   ·rw [if_pos hx];cases hh : (has (ndiff (full hi) s) x.Node && q46 hi s x.Node.toNat) with
    | false => simp
    | true =>
     simp only [cond_true];by_cases hA : x.A = 0
     ·rw [hA, q0p];by_cases hB : x.B = 0
      ·rw [hB, q0p]; rfl
      ·rw [q0t hB]; simp [hB]
     ·rw [q0t hA]; simp [hA]
   ·rw [if_neg hx, decide_eq_false h1];have : has (ndiff (full hi) s) x.Node = false := by unfold has; rw [decide_eq_false hx]; rfl
    rw [this]; rfl
 ·rw [q0s h, beq_eq_false_iff_ne.2 h]; rfl
end Go.Proofs.YtbmelgbadedbbaaGreat
