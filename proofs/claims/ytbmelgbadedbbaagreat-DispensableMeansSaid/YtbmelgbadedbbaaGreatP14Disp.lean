/- Dispensable sets, in both texts. -/
import Derived.Test.YtbmelgbadedbbaaGreatP14Pair
namespace Go.Proofs.YtbmelgbadedbbaaGreat
open Go Go.Ab Go.Sort
theorem y02 {a b : Int} (h : a = b) : neB a b = false := by rw [h, q0b]
theorem q3n {c : Config} (hn : c.Members.length ≤ 10) : z1h c = some ((full c : Nat) : Int) := by
 apply y6m;rw [q0n (by omega), q2g hn]; rfl
theorem q4n {c : Config} (hn : c.Members.length ≤ 10) : z3x c = some ((full c : Nat) : Int) := by
 apply y6o;rw [q0n (by omega), q2g hn]; rfl
theorem q9j {c : Config} {i : Nat} {m : Member} (h : c.Members[i]? = some m) (hi : i < 10) : (decl c).testBit i = m.Declared := by
 rw [Bool.eq_iff_iff, q2t];exact ⟨fun ⟨_, m', h1, h2⟩ => by rw [h] at h1; cases h1; exact h2, fun h2 => ⟨hi, m, h, h2⟩⟩
theorem qih {c : Config} {i : Nat} {m : Member} (h : c.Members[i]? = some m) : tr c i = m.Trust := by unfold tr; rw [h]; rfl
theorem ValidC.mem {c : Config} (h : ValidC c) {i : Nat} {m : Member} (hm : c.Members[i]? = some m) (hd : m.Declared = true) : valid m.Trust = true ∧ uses m.Trust < 2 ^ c.Members.length := by
 have := h.2 m (List.mem_of_getElem? hm);unfold MemV at this
 rwa [if_pos hd] at this
def impK (lo hi : Config) (k : Nat) : Bool := !(decl lo).testBit k || impB (tr hi k) (tr lo k)
def impsB (lo hi : Config) : Bool := (List.range' 0 lo.Members.length).all (impK lo hi)
def pairE (lo hi : Config) : Int :=
 if cerr lo ≠ 0 then cerr lo else if cerr hi ≠ 0 then cerr hi else if lo.Members.length ≠ hi.Members.length then 1 else if decl lo ≠ decl hi then 1
 else if 7 < lo.Members.length then 3 else if impsB lo hi = true then 0 else 14
theorem q1b {lo hi : Config} (h : pairE lo hi = 0) : ValidC lo ∧ ValidC hi ∧ lo.Members.length = hi.Members.length ∧ decl lo = decl hi ∧ lo.Members.length ≤ 7 := by
 unfold pairE at h;split at h
 ·rename_i h1; exact absurd h h1
 ·rename_i h1;split at h
  ·rename_i h2; exact absurd h h2
  ·rename_i h2;split at h
   ·cases h
   ·rename_i h3;split at h
    ·cases h
    ·rename_i h4;split at h
     ·cases h
     ·rename_i h5;exact ⟨q1k.1 (Classical.not_not.1 h1), q1k.1 (Classical.not_not.1 h2), Classical.not_not.1 h3, Classical.not_not.1 h4, by omega⟩
theorem qiq {n : Nat} {lo hi : Config} (h : PairOk n lo hi) (hn : n ≤ 7) : pairE lo hi = 0 := by
 have h1 := (h.lok.valid (by omega)).cerr
 have h2 := (h.hik.valid (by omega)).cerr
 have hle := h.lok.le;unfold pairE;rw [h1, h2, if_neg (by simp), if_neg (by simp), if_neg (by rw [h.len]; simp), if_neg (by rw [h.dec]; simp), if_neg (by omega), if_pos]
 unfold impsB;rw [List.all_eq_true];intro k _;unfold impK;cases hd : (decl lo).testBit k with
 | false => rfl
 | true => simp only [Bool.not_true, Bool.false_or]; exact qp6.2 fun s hs => h.imp k s hd hs
theorem qkt {lo hi : Config} (hv : ValidC lo) (hw : ValidC hi) (hl : lo.Members.length = hi.Members.length) (hd : decl lo = decl hi) : ∀ (n i : Nat), i + n = lo.Members.length →
  z1x hi.Members ((hi.Members.length : Nat) : Int) (i : Int) lo.Members hi.Members = some (if (List.range' i n).all (impK lo hi) = true then 0 else 14)
 | 0, i, h => by
  apply y0l;rw [q00 (by omega)]; rfl
 | n + 1, i, h => by
  have hle := hv.1;have ih := qkt hv hw hl hd n (i + 1) (by omega)
  have g1 : lo.Members[i]? = some lo.Members[i] := List.getElem?_eq_getElem (by omega)
  have g2 : hi.Members[i]? = some (hi.Members[i]'(by omega)) := List.getElem?_eq_getElem (by omega)
  apply y0l;rw [q03 (by omega)]
  simp only [cond_true];rw [q0x (by omega) (by rw [Int.toNat_natCast]; exact g2)]
  have e1 := q9j g1 (by omega)
  have e2 := q9j g2 (by omega)
  rw [hd, e2] at e1;rw [List.range'_succ, List.all_cons, q02 (by omega), ih]
  cases hdec : (hi.Members[i]'(by omega)).Declared with
  | false =>
   have : impK lo hi i = true := by unfold impK; rw [hd, e2, hdec]; rfl
   rw [this]; rfl
  | true =>
   rw [hdec] at e1;obtain ⟨z, hz⟩ := qrq (hw.mem g2 hdec).1 (hv.mem g1 e1.symm).1;have : impK lo hi i = impB (hi.Members[i]'(by omega)).Trust lo.Members[i].Trust := by unfold impK; rw [hd, e2, hdec, qih g1, qih g2]; simp only [Bool.not_true, Bool.false_or]
   simp only [Bool.not_true, cond_false];rw [q0x (by omega) (by rw [Int.toNat_natCast]; exact g1), hz, this]
   simp only [Option.bind_some];cases impB (hi.Members[i]'(by omega)).Trust lo.Members[i].Trust <;> rfl
theorem qwa {lo hi : Config} (hs : q0s lo) (hs' : q0s hi) : z4i lo hi = some (pairE lo hi) := by
 have h1 := hs.1;have h2 := hs'.1;apply y5a;rw [qc1 hs];simp only [Option.bind_some];unfold pairE;by_cases e1 : cerr lo = 0
 ·rw [e1, q0b, if_neg (by simp), qc1 hs']
  simp only [cond_false, Option.bind_some];by_cases e2 : cerr hi = 0
  ·rw [e2, q0b, if_neg (by simp)]
   simp only [cond_false];by_cases e3 : lo.Members.length = hi.Members.length
   ·rw [e3, q0b, if_neg (by simp), q5z lo h1, q5z hi h2]
    simp only [cond_false, Option.bind_some];by_cases e4 : decl lo = decl hi
    ·rw [← e4, q0b, if_neg (by simp)]
     simp only [cond_false];by_cases e5 : 7 < hi.Members.length
     ·rw [q03 (by omega), if_pos e5]; rfl
     ·rw [q00 (by omega), if_neg e5]
      simp only [cond_false];have := qkt (q1k.1 e1) (q1k.1 e2) e3 e4 lo.Members.length 0 (by omega)
      exact this
    ·rw [q0r (by omega), if_pos e4]; rfl
   ·rw [q0r (by omega), if_pos e3]; rfl
  ·rw [q0r e2, if_pos e2]; rfl
 ·rw [q0r e1, if_pos e1]; rfl
def impN (n : Nat) (a b : Trust) : Bool := (List.range' 0 (2 ^ n)).all fun s => !sat s a || sat s b
theorem y1q {n : Nat} (hn : n ≤ 10) {a b : Trust} (ha : uses a < 2 ^ n) (hb : uses b < 2 ^ n) : impN n a b = impB a b := by
 rw [Bool.eq_iff_iff, qp6];unfold impN;rw [List.all_eq_true];have cut : ∀ (t : Trust) (s : Nat), uses t < 2 ^ n → sat (s &&& (2 ^ n - 1)) t = sat s t := fun t s ht => qp4 t fun k hk => by
  obtain ⟨i, rfl, hi, hb⟩ := qhr hk;have := q1i.1 ht i hb;rw [q3v hi, q3v hi, Nat.testBit_and, this, Bool.and_true]
 constructor
 ·intro h s _ hsa;have hlt : s &&& (2 ^ n - 1) < 2 ^ n := by
   have := Nat.two_pow_pos n;have := Nat.and_le_right (n := s) (m := 2 ^ n - 1);omega
  have := h (s &&& (2 ^ n - 1)) (by rw [List.mem_range'_1]; omega)
  rw [cut a s ha, cut b s hb, hsa] at this;simpa using this
 ·intro h s hs;rw [List.mem_range'_1] at hs;have hp := pow10 hn;cases hsa : sat s a with
  | false => rfl
  | true => simp only [Bool.not_true, Bool.false_or]; exact h s (by omega) hsa
theorem qlx {lo hi : Config} (hv : ValidC lo) {k : Nat} {m m' : Member} (g1 : lo.Members[k]? = some m) (g2 : hi.Members[k]? = some m') (s1 : Small m.Trust) (s2 : Small m'.Trust) {len r : Int} (K : z2y len ((k + 1 : Nat) : Int) lo.Members hi.Members = some r) (hk : k < 100) : ∀ (j s : Nat), s + j = 2 ^ lo.Members.length →
  z3h (k : Int) (s : Int) len (k : Int) lo.Members hi.Members = some (if ((List.range' s j).all fun s => !sat s m'.Trust || sat s m.Trust) = true then r else 14)
 | 0, s, h => by
  apply y0w;rw [show Config.mk lo.Members = lo from rfl, q4n hv.1]
  simp only [Option.bind_some];have : full lo < s := by have := Nat.two_pow_pos lo.Members.length; unfold full; omega
  rw [q0a (by omega)]
  simp only [cond_false];rw [q02 (by omega)]
  exact K
 | j + 1, s, h => by
  have hp := pow10 hv.1;have ih := qlx hv g1 g2 s1 s2 K hk j (s + 1) (by omega)
  apply y0w;rw [show Config.mk lo.Members = lo from rfl, q4n hv.1]
  simp only [Option.bind_some];have : s ≤ full lo := by unfold full; omega
  rw [q0d (by omega)]
  simp only [cond_true];rw [q0x (by omega) (by rw [Int.toNat_natCast]; exact g2), q4l (by omega) m'.Trust s2]
  simp only [Option.bind_some];rw [q02 (by omega), ih, List.range'_succ, List.all_cons]
  cases hb : sat s m'.Trust with
  | false => rfl
  | true =>
   simp only [cond_true];rw [q0x (by omega) (by rw [Int.toNat_natCast]; exact g1), q4l (by omega) m.Trust s1]
   simp only [Option.bind_some];cases sat s m.Trust <;> rfl
theorem ql4 {lo hi : Config} (hv : ValidC lo) (hw : ValidC hi) (hl : lo.Members.length = hi.Members.length) (hd : decl lo = decl hi) : ∀ (n i : Nat), i + n = lo.Members.length →
  z2y ((lo.Members.length : Nat) : Int) (i : Int) lo.Members hi.Members = some (if (List.range' i n).all (impK lo hi) = true then 0 else 14)
 | 0, i, h => by
  apply y0o;rw [q00 (by omega)]; rfl
 | n + 1, i, h => by
  have hle := hv.1;have ih := ql4 hv hw hl hd n (i + 1) (by omega)
  have g1 : lo.Members[i]? = some lo.Members[i] := List.getElem?_eq_getElem (by omega)
  have g2 : hi.Members[i]? = some (hi.Members[i]'(by omega)) := List.getElem?_eq_getElem (by omega)
  apply y0o;rw [q03 (by omega)]
  simp only [cond_true];rw [q0x (by omega) (by rw [Int.toNat_natCast]; exact g1)]
  have e1 := q9j g1 (by omega)
  have e2 := q9j g2 (by omega)
  have e3 := e1;rw [hd, e2] at e1;rw [List.range'_succ, List.all_cons, q02 (by omega)]
  cases hdec : lo.Members[i].Declared with
  | false =>
   have : impK lo hi i = true := by unfold impK; rw [e3, hdec]; rfl
   rw [this, ih]; rfl
  | true =>
   rw [hdec] at e1;have m1 := hv.mem g1 hdec;have m2 := hw.mem g2 e1;have : impK lo hi i = impN lo.Members.length (hi.Members[i]'(by omega)).Trust lo.Members[i].Trust := by
    rw [y1q hv.1 (by rw [hl]; exact m2.2) m1.2]
    unfold impK; rw [e3, hdec, qih g1, qih g2]; simp only [Bool.not_true, Bool.false_or]
   simp only [Bool.not_true, cond_false];have key := qlx hv g1 g2 (q2r m1.1) (q2r m2.1) ih (by omega) (2 ^ lo.Members.length) 0 (by omega)
   rw [this];refine Eq.trans key ?_;rw [show ((List.range' 0 (2 ^ lo.Members.length)).all fun s => !sat s (hi.Members[i]'(by omega)).Trust || sat s lo.Members[i].Trust) = impN lo.Members.length (hi.Members[i]'(by omega)).Trust lo.Members[i].Trust from rfl]
   cases impN lo.Members.length (hi.Members[i]'(by omega)).Trust lo.Members[i].Trust with
   | false => rfl
   | true => simp only [Bool.true_and, if_true]
theorem qvj {lo hi : Config} (hs : q0s lo) (hs' : q0s hi) : z5z lo hi = some (pairE lo hi) := by
 have h1 := hs.1;have h2 := hs'.1;apply y6b;rw [q9p hs];simp only [Option.bind_some];unfold pairE;by_cases e1 : cerr lo = 0
 ·rw [e1, q0b, if_neg (by simp), q9p hs']
  simp only [cond_false, Option.bind_some];by_cases e2 : cerr hi = 0
  ·rw [e2, q0b, if_neg (by simp)]
   simp only [cond_false];by_cases e3 : lo.Members.length = hi.Members.length
   ·rw [y02 (by rw [e3]), if_neg (by rw [e3]; simp), q31 lo h1, q31 hi h2]
    simp only [cond_false, Option.bind_some];by_cases e4 : decl lo = decl hi
    ·rw [y02 (by rw [e4]), if_neg (by rw [e4]; simp)]
     simp only [cond_false];by_cases e5 : 7 < lo.Members.length
     ·rw [q03 (by omega), if_pos e5]; rfl
     ·rw [q00 (by omega), if_neg e5]
      simp only [cond_false];exact ql4 (q1k.1 e1) (q1k.1 e2) e3 e4 lo.Members.length 0 (by omega)
    ·rw [q0r (by omega), if_pos e4]; rfl
   ·rw [q0r (by omega), if_pos e3]; rfl
  ·rw [q0r e2, if_pos e2]; rfl
 ·rw [q0r e1, if_pos e1]; rfl
theorem qfk {c : Config} (hc : q0s c) (z : Int) : z2z c z = some (askE c z) := by
 apply y61;rw [qc1 hc];simp only [Option.bind_some, askE];by_cases he : cerr c = 0
 ·rw [he, q0b];simp only [cond_false, ne_eq, not_true, if_false];by_cases h0 : z < 0
  ·rw [q03 h0, if_pos h0]; rfl
  ·rw [q00 (by omega), if_neg h0, q3n (q1k.1 he).1]
   simp only [cond_false, Option.bind_some, full];by_cases h1 : ((2 ^ c.Members.length - 1 : Nat) : Int) < z
   ·rw [q03 h1, if_pos h1]; rfl
   ·rw [q00 (by omega), if_neg h1]; rfl
 ·rw [q0r he];simp [he]
theorem qnp {c : Config} (hv : ValidC c) (z : Int) : z5o c z = some (askE c z) := by
 apply y4p;unfold askE;rw [hv.cerr, if_neg (by simp)]
 by_cases h0 : z < 0
 ·rw [q03 h0, if_pos h0]; rfl
 ·rw [q00 (by omega), if_neg h0, q4n hv.1]
  simp only [cond_false, Option.bind_some, full];by_cases h1 : ((2 ^ c.Members.length - 1 : Nat) : Int) < z
  ·rw [q03 h1, if_pos h1]; rfl
  ·rw [q00 (by omega), if_neg h1]; rfl
def qhp (c : Config) (z : Int) : Bool × Int := if askE c z = 0 then (!q4y c z.toNat, 0) else (false, askE c z)
def avaR (c : Config) (z : Int) : Bool × Int := if askE c z = 0 then (q85 c z.toNat, 0) else (false, askE c z)
theorem qli {c : Config} (hc : q0s c) (z : Int) : z2i c z = some (qhp c z) := by
 apply y7h;rw [qfk hc];simp only [Option.bind_some, qhp];by_cases h : askE c z = 0
 ·obtain ⟨hv, s, rfl, hs⟩ := q8p h;rw [h, q0b, qnx (q1z hv.1 hs) c hv.bears];simp only [Option.bind_some, cond_false, if_true];rw [que (q1w s hv).small (q1w s hv).cerr];rfl
 ·rw [q0r h, if_neg h]; rfl
theorem qu2 {c : Config} (hc : q0s c) (z : Int) : z4w c z = some (qhp c z) := by
 apply y5r;rw [q9p hc];simp only [Option.bind_some, qhp];by_cases he : cerr c = 0
 ·rw [he, q0b, qnp (q1k.1 he)];simp only [cond_false, Option.bind_some];by_cases h : askE c z = 0
  ·obtain ⟨hv, s, rfl, hs⟩ := q8p h;rw [h, q0b, q7e (q1z hv.1 hs) c hv.bears];simp only [Option.bind_some, cond_false, if_true];rw [qlo (q1w s hv).small (q1w s hv).cerr];rfl
  ·rw [q0r h, if_neg h]; rfl
 ·have h : askE c z = cerr c := by unfold askE; rw [if_pos he]
  rw [q0r he, h, if_neg he]; rfl
theorem qct {c : Config} (hn : c.Members.length ≤ 10) {s : Nat} (hs : s < 2 ^ c.Members.length) : subI .i64 ((full c : Nat) : Int) ((s : Nat) : Int) = ((ndiff (full c) s : Nat) : Int) := by
 have := q8o hn;rw [qbj (by unfold full; omega) (by omega)]
 unfold full;rw [qhi hs]
theorem q78 {c : Config} (hn : c.Members.length ≤ 10) {s : Nat} (hs : s < 2 ^ c.Members.length) : q3c .i64 ((full c : Nat) : Int) ((s : Nat) : Int) = ((ndiff (full c) s : Nat) : Int) := by
 have := q8o hn;have := q1z hn hs;rw [q2j (by omega) (by omega)]
theorem qtx {c : Config} (hc : q0s c) (z : Int) : z3b c z = some (avaR c z) := by
 apply y3q;rw [qfk hc];simp only [Option.bind_some, avaR];by_cases h : askE c z = 0
 ·obtain ⟨hv, s, rfl, hs⟩ := q8p h;rw [h, q0b, q3n hv.1];simp only [Option.bind_some, cond_false, if_true];rw [q78 hv.1 hs, q5h, Int.toNat_natCast];unfold q85;cases h0 : (ndiff (full c) s == 0) with
  | true => simp
  | false =>
   simp only [cond_false, Bool.false_or];rw [q9s (q8a hv.1 s) hv.small]; rfl
 ·rw [q0r h, if_neg h]; rfl
theorem qva {c : Config} (hc : q0s c) (z : Int) : z54 c z = some (avaR c z) := by
 apply y55;rw [q9p hc];simp only [Option.bind_some, avaR];by_cases he : cerr c = 0
 ·rw [he, q0b, qnp (q1k.1 he)];simp only [cond_false, Option.bind_some];by_cases h : askE c z = 0
  ·obtain ⟨hv, s, rfl, hs⟩ := q8p h;rw [h, q0b, q4n hv.1];simp only [Option.bind_some, cond_false, if_true];rw [qct hv.1 hs, q5h, Int.toNat_natCast];unfold q85;cases h0 : (ndiff (full c) s == 0) with
   | true => simp
   | false =>
    simp only [cond_false, Bool.false_or];rw [q9m (q8a hv.1 s) hv.small]; rfl
  ·rw [q0r h, if_neg h]; rfl
 ·have h : askE c z = cerr c := by unfold askE; rw [if_pos he]
  rw [q0r he, h, if_neg he]; rfl
def dE (lo hi : Config) (z : Int) : Int := if pairE lo hi = 0 then askE lo z else pairE lo hi
theorem qed {lo hi : Config} (hs : q0s lo) (hs' : q0s hi) (z : Int) : z2r lo hi z = some (dE lo hi z) := by
 apply y50;rw [qwa hs hs'];simp only [Option.bind_some, dE];by_cases h : pairE lo hi = 0
 ·rw [h, q0b, qfk hs]; rfl
 ·rw [q0r h, if_neg h]; rfl
theorem qlf {lo hi : Config} (hs : q0s lo) (hs' : q0s hi) (z : Int) : z5l lo hi z = some (dE lo hi z) := by
 apply y70;rw [qvj hs hs'];simp only [Option.bind_some, dE];by_cases h : pairE lo hi = 0
 ·rw [h, q0b, qnp (q1b h).1]; rfl
 ·rw [q0r h, if_neg h]; rfl
theorem qcl {lo hi : Config} {z : Int} (h : dE lo hi z = 0) : pairE lo hi = 0 ∧ ∃ s : Nat, z = (s : Int) ∧ s < 2 ^ lo.Members.length := by
 unfold dE at h;split at h
 ·rename_i h1; exact ⟨h1, (q8p h).2⟩
 ·rename_i h1; exact absurd h h1
theorem qm8 {lo hi : Config} (h : pairE lo hi = 0) {s : Nat} (hs : s < 2 ^ lo.Members.length) : dE lo hi (s : Int) = 0 := by
 unfold dE; rw [if_pos h, qjm (q1b h).1 hs]
theorem qcd {c : Config} (hv : ValidC c) {s : Nat} (hs : s < 2 ^ c.Members.length) : qhp c (s : Int) = (!q4y c s, 0) := by
 unfold qhp; rw [if_pos (qjm hv hs)]; rfl
theorem qq3 {c : Config} (hv : ValidC c) {s : Nat} (hs : s < 2 ^ c.Members.length) : avaR c (s : Int) = (q85 c s, 0) := by
 unfold avaR; rw [if_pos (qjm hv hs)]; rfl
theorem qzs {lo hi : Config} (h : pairE lo hi = 0) {s : Nat} (hs : s < 2 ^ lo.Members.length) : z4q lo hi (s : Int) = some (isB lo hi s) := by
 obtain ⟨hv, hw, hl, _, _⟩ := q1b h;apply y3k;rw [qtx hw.small, qq3 hw (by rw [← hl]; exact hs)]
 simp only [Option.bind_some, isB];cases q85 hi s with
 | false => rfl
 | true =>
  simp only [Bool.not_true, cond_false, Bool.true_and];rw [qli hv.small, qcd hv hs]; rfl
theorem y60 {lo hi : Config} (h : pairE lo hi = 0) {s : Nat} (hs : s < 2 ^ lo.Members.length) : z6g lo hi (s : Int) = some (isB lo hi s) := by
 obtain ⟨hv, hw, hl, _, _⟩ := q1b h;apply y4h;rw [qva hw.small, qq3 hw (by rw [← hl]; exact hs)]
 simp only [Option.bind_some, isB];cases q85 hi s with
 | false => rfl
 | true =>
  simp only [Bool.not_true, cond_false, Bool.true_and];rw [qu2 hv.small, qcd hv hs]; rfl
def isR (lo hi : Config) (z : Int) : Bool × Int := if dE lo hi z = 0 then (isB lo hi z.toNat, 0) else (false, dE lo hi z)
theorem qzm {lo hi : Config} (hs : q0s lo) (hs' : q0s hi) (z : Int) : z4p lo hi z = some (isR lo hi z) := by
 apply y49;rw [qed hs hs'];simp only [Option.bind_some, isR];by_cases h : dE lo hi z = 0
 ·obtain ⟨h0, s, rfl, hlt⟩ := qcl h;rw [h, q0b, qzs h0 hlt]; rfl
 ·rw [q0r h, if_neg h]; rfl
theorem y62 {lo hi : Config} (hs : q0s lo) (hs' : q0s hi) (z : Int) : z6f lo hi z = some (isR lo hi z) := by
 apply y6p;rw [qlf hs hs'];simp only [Option.bind_some, isR];by_cases h : dE lo hi z = 0
 ·obtain ⟨h0, s, rfl, hlt⟩ := qcl h;rw [h, q0b, y60 h0 hlt]; rfl
 ·rw [q0r h, if_neg h]; rfl
theorem qna {lo hi : Config} (h : pairE lo hi = 0) {s : Nat} (hs : s < 2 ^ lo.Members.length) : isR lo hi (s : Int) = (isB lo hi s, 0) := by
 unfold isR; rw [if_pos (qm8 h hs)]; rfl
theorem qsf {a b : Nat} : (a &&& b == b) = (ndiff b a == 0) := by
 rw [Bool.eq_iff_iff, beq_iff_eq, beq_iff_eq, q33];constructor
 ·intro h i hi;rw [← h, Nat.testBit_and, Bool.and_eq_true] at hi; exact hi.1
 ·intro h;exact (Sub.and_right a b).antisymm fun i hi => by rw [Nat.testBit_and, h i hi, hi]; rfl
theorem qwy (a b : Nat) : eqB (a : Int) (b : Int) = (a == b) := by
 by_cases h : a = b
 ·rw [h, q0y]; simp
 ·rw [q19 (by omega)]; simp [h]
theorem qtb {lo hi : Config} (h : pairE lo hi = 0) {ill : Nat} (hill : ill < 2 ^ lo.Members.length) {l : List Nat} (hl : l.length ≤ 1024) (hm : ∀ s ∈ l, s < 2 ^ lo.Members.length) : ∀ (suf pre : List Nat), l = pre ++ suf →
  z1w (ill : Int) ((pre.filter fun b => ndiff ill b == 0 && isB lo hi b).map Int.ofNat) (l.map Int.ofNat) ((l.length : Nat) : Int) ((pre.length : Nat) : Int) lo.Members hi.Members = some ((l.filter fun b => ndiff ill b == 0 && isB lo hi b).map Int.ofNat, 0)
 | [], pre, e => by
  rw [List.append_nil] at e;subst e;apply y1f;rw [q00 (Int.le_refl _)]; rfl
 | b :: suf, pre, e => by
  have hn := (q1b h).1.1;have hd : (l.map Int.ofNat).drop pre.length = (b : Int) :: suf.map Int.ofNat := q1n (by rw [e]; simp)
  have hlt : pre.length < l.length := by rw [e]; simp
  have hb := hm b (by rw [e]; simp)
  have hb' := q1z hn hb;have hi' := q1z hn hill;have hfl := List.length_filter_le (fun b => ndiff ill b == 0 && isB lo hi b) pre
  have ih := qtb h hill hl hm suf (pre ++ [b]) (by rw [e]; simp)
  rw [List.filter_append, List.map_append, List.length_append] at ih;apply y1f;rw [q03 (by omega)]
  simp only [cond_true, q08 hd];rw [q2j (by omega) (by omega), q5h, q02 (by omega)]
  cases h1 : (ndiff ill b == 0) with
  | false =>
   rw [List.filter_cons, h1] at ih;simp only [Bool.false_and, Bool.false_eq_true, if_false, List.filter_nil, List.map_nil, List.append_nil] at ih;exact ih
  | true =>
   simp only [cond_true];rw [show Config.mk lo.Members = lo from rfl, show Config.mk hi.Members = hi from rfl, qzs h hb]
   simp only [Option.bind_some];cases h2 : isB lo hi b with
   | false =>
    rw [List.filter_cons, h1, h2] at ih;simp only [Bool.true_and, Bool.false_eq_true, if_false, List.filter_nil, List.map_nil, List.append_nil] at ih;exact ih
   | true =>
    rw [List.filter_cons, h1, h2] at ih;simp only [Bool.true_and, if_true, List.filter_nil] at ih;rw [q0e (by simp [q0i]; omega)]
    exact ih
def allR (lo hi : Config) (z : Int) : List Int × Int := if dE lo hi z = 0 then ((alls lo hi z.toNat).map Int.ofNat, 0) else ([], dE lo hi z)
theorem qo1 {c : Config} {s : Nat} (h : s ∈ q1g (full c)) : s < 2 ^ c.Members.length := qb1.2 (q0u.1 h)
theorem qoy {lo hi : Config} (hs : q0s lo) (hs' : q0s hi) (z : Int) : z31 lo hi z = some (allR lo hi z) := by
 apply y6j;rw [qed hs hs'];simp only [Option.bind_some, allR];by_cases h : dE lo hi z = 0
 ·obtain ⟨h0, s, rfl, hlt⟩ := qcl h;have hn := (q1b h0).1.1;rw [h, q0b, q3n hn];simp only [cond_false, Option.bind_some];rw [qo7 (q8o hn)];simp only [Option.bind_some, List.length_map];exact qtb h0 hlt (qcs (q8o hn)) (fun s hs => qo1 hs) _ [] rfl
 ·rw [q0r h, if_neg h]; rfl
theorem qj0 {lo hi : Config} (h : pairE lo hi = 0) {s : Nat} (hs : s < 2 ^ lo.Members.length) : allR lo hi (s : Int) = ((alls lo hi s).map Int.ofNat, 0) := by
 unfold allR; rw [if_pos (qm8 h hs)]; rfl
theorem qj3 {lo hi : Config} (hn : lo.Members.length ≤ 10) (ill : Nat) : (alls lo hi ill).length ≤ 1024 :=
 Nat.le_trans (List.length_filter_le _ _) (qcs (q8o hn))
theorem qwm {lo hi : Config} {ill s : Nat} (h : s ∈ alls lo hi ill) : s < 2 ^ lo.Members.length := qb1.2 (q3h.1 h).1
theorem qrb {hi : Config} (hw : ValidC hi) {v s : Nat} (hv : v < hi.Members.length) (hs : s < 2 ^ hi.Members.length) : z3u hi (v : Int) (s : Int) = some (q3r hi s v) := by
 have g : hi.Members[v]? = some hi.Members[v] := List.getElem?_eq_getElem hv;have hle := hw.1;have e := q9j g (by omega)
 apply y4l;rw [q0x (by omega) (by rw [Int.toNat_natCast]; exact g)]
 unfold q3r;rw [e, qih g];cases hd : hi.Members[v].Declared with
 | false => rfl
 | true =>
  simp only [Bool.not_true, cond_false, Bool.false_or];rw [q3n hle];simp only [Option.bind_some];rw [q78 hle hs, q3s (q8a hle s) _ (q2r (hw.mem g hd).1)]; rfl
def qtp (hi : Config) (s : Nat) (k : Int) : Bool := has (ndiff (full hi) s) k && q3r hi s k.toNat
theorem qyf {hi : Config} (hw : ValidC hi) {s : Nat} (hs : s < 2 ^ hi.Members.length) (k : Int) : z5y hi (s : Int) k = some (qtp hi s k) := by
 have hle := hw.1;have hs' := q1z hle hs;apply y3u;unfold qtp;by_cases h0 : k < 0
 ·rw [q03 h0];have : has (ndiff (full hi) s) k = false := by unfold has; rw [decide_eq_false (by omega)]; rfl
  rw [this]; rfl
 ·obtain ⟨v, rfl⟩ := Int.eq_ofNat_of_zero_le (show 0 ≤ k by omega)
  rw [q00 (by omega)]
  by_cases h1 : hi.Members.length ≤ v
  ·rw [q0d (by omega)]
   have : has (ndiff (full hi) s) (v : Int) = false := by
    cases hh : has (ndiff (full hi) s) (v : Int) with
    | false => rfl
    | true =>
     obtain ⟨n, e, _, hb⟩ := qhr hh;rw [q06, Bool.and_eq_true, qbi, decide_eq_true_eq] at hb;have := Int.ofNat.inj e; omega
   rw [this]; rfl
  ·have hv : v < hi.Members.length := by omega
   have hfv : (full hi).testBit v = true := by rw [qbi, decide_eq_true_eq]; exact hv
   have g : hi.Members[v]? = some hi.Members[v] := List.getElem?_eq_getElem hv;have e := q9j g (by omega)
   rw [q0a (by omega), q21 hs', q3v (by omega), q3v (by omega), q06, hfv]
   simp only [cond_false, Option.bind_some, Int.toNat_natCast, Bool.true_and];cases hb : s.testBit v with
   | true => rfl
   | false =>
    simp only [cond_false, Bool.not_false, Bool.true_and];rw [q0x (by omega) (by rw [Int.toNat_natCast]; exact g)]
    unfold q3r;rw [e, qih g];cases hd : hi.Members[v].Declared with
    | false => rfl
    | true =>
     simp only [Bool.not_true, cond_false, Bool.false_or];rw [q0x (by omega) (by rw [Int.toNat_natCast]; exact g), q4n hle]
     simp only [Option.bind_some];rw [qct hle hs, q4l (q8a hle s) _ (q2r (hw.mem g hd).1)]; rfl
def refT (r : Int × Int × Int × Int) : Refutation × Int := (⟨r.1, r.2.1, r.2.2.1⟩, r.2.2.2)
def refuR (lo hi : Config) (z : Int) : Refutation × Int := if dE lo hi z = 0 then refT (refR lo hi z.toNat) else (⟨0, 0, 0⟩, dE lo hi z)
theorem qxk {lo hi : Config} (_hv : ValidC lo) {s : Nat} (h : (nodes (ndiff (full hi) s)).find? (q3r hi s) = none) (e : Int) :
  (bif neB (disjR (delC s lo)).2.2 0 then some (Refutation.mk 0 0 0, if e = 0 then (disjR (delC s lo)).2.2 else 11) else some (Refutation.mk (-1) (disjR (delC s lo)).1 (disjR (delC s lo)).2.1, 0)) = some (refT (refR lo hi s)) := by
 unfold refR refT disjR;rw [h];cases twoB (delC s lo) with
 | true => rfl
 | false =>
  simp only [Bool.false_eq_true, if_false];rw [q0r (by decide)]
  simp
theorem qvy {lo hi : Config} (h : pairE lo hi = 0) {s : Nat} (hs : s < 2 ^ lo.Members.length) {d1 d2 d3 : Int} {l : List Nat} (hl : l.length ≤ 10) (hall : (l.find? (q3r hi s)) = (nodes (ndiff (full hi) s)).find? (q3r hi s)) (hm : ∀ v ∈ l, v < hi.Members.length) : ∀ (suf : List Nat) (i : Nat), l.drop i = suf → suf.find? (q3r hi s) = l.find? (q3r hi s) →
  z26 (s : Int) (l.map Int.ofNat) ((l.length : Nat) : Int) (i : Int) lo.Members hi.Members d1 d2 d3 = some (refT (refR lo hi s))
 | [], i, hd, hf => by
  obtain ⟨hv, hw, hlen, _, _⟩ := q1b h;have hno : (nodes (ndiff (full hi) s)).find? (q3r hi s) = none := by rw [← hall, ← hf]; rfl
  apply qzd;rw [q0j hd, show Config.mk lo.Members = lo from rfl, qnx (q1z hv.1 hs) lo hv.bears]
  simp only [cond_false, Option.bind_some];rw [qkr (q1w s hv).small (q1w s hv).cerr];simp only [Option.bind_some];have := qxk hv hno 0;simpa using this
 | v :: suf, i, hd, hf => by
  obtain ⟨hv, hw, hlen, _, _⟩ := q1b h;have hlt := q0h hd;have hvm := hm v (List.mem_of_mem_drop (by rw [hd]; exact List.mem_cons_self))
  apply qzd;rw [q09 hd];simp only [cond_true, q08 (q1n hd)];rw [show Config.mk hi.Members = hi from rfl, qrb hw hvm (by rw [← hlen]; exact hs)]
  simp only [Option.bind_some];cases hn : q3r hi s v with
  | true =>
   have : (nodes (ndiff (full hi) s)).find? (q3r hi s) = some v := by rw [← hall, ← hf, List.find?_cons, hn]
   unfold refR refT;rw [this]; rfl
  | false =>
   simp only [cond_false];rw [q02 (by omega)]
   exact qvy h hs hl hall hm suf (i + 1) (q05 hd) (by rw [← hf, List.find?_cons, hn])
theorem qie {lo hi : Config} (hs : q0s lo) (hs' : q0s hi) (z : Int) : z2q lo hi z = some (refuR lo hi z) := by
 apply y4f;rw [qed hs hs'];simp only [Option.bind_some, refuR];by_cases h : dE lo hi z = 0
 ·obtain ⟨h0, s, rfl, hlt⟩ := qcl h;obtain ⟨hv, hw, hlen, _, _⟩ := q1b h0;rw [h, q0b, q3n hw.1];simp only [cond_false, Option.bind_some, if_true, Int.toNat_natCast];rw [q78 hw.1 (by rw [← hlen]; exact hlt), qff (q8a hw.1 s)]
  simp only [Option.bind_some, List.length_map];exact qvy h0 hlt (q77 _) rfl (fun v hv => by
   have := (q1p.1 hv).1;rw [q06, Bool.and_eq_true, qbi, decide_eq_true_eq] at this;exact this.1) _ 0 rfl rfl
 ·rw [q0r h, if_neg h]; rfl
theorem qqp {c : Config} (hc : q0s c) (z : Int) : z2j c z = some (quoZ c z) := by
 unfold quoZ;cases h : okS z with
 | true =>
  obtain ⟨s, rfl, hs⟩ := qqj h;rw [q9s hs hc]; rfl
 | false =>
  apply qyq;rw [q5i, h]; rfl
theorem qqz {c : Config} (hc : q0s c) (z : Int) : z1v c z = some (quoZ c z) := by
 unfold quoZ;cases h : okS z with
 | true =>
  obtain ⟨s, rfl, hs⟩ := qqj h;rw [q9m hs hc]; rfl
 | false =>
  apply qqx;rw [qeq, h]; rfl
theorem qks {c : Config} {a b : Int} (ha : quoZ c a = true) (hb : quoZ c b = true) : eqB (andI .i64 a b) 0 = (a.toNat &&& b.toNat == 0) := by
 obtain ⟨s, rfl, hs⟩ := qit ha;obtain ⟨t, rfl, ht⟩ := qit hb;have := qi7 hs;have := qi7 ht;rw [q2o (by omega) (by omega), q5h]; rfl
def chkR (lo hi : Config) (z : Int) (x : Refutation) : Bool := dE lo hi z == 0 && chkB lo hi z.toNat x.Node x.A x.B
theorem qyc {hi : Config} {s : Nat} {x : Int} (h : has (ndiff (full hi) s) x = true) : ∃ v : Nat, x = (v : Int) ∧ v < hi.Members.length := by
 obtain ⟨v, rfl, _, hb⟩ := qhr h;rw [q06, Bool.and_eq_true, qbi, decide_eq_true_eq] at hb;exact ⟨v, rfl, hb.1⟩
theorem q9f {lo hi : Config} (hs : q0s lo) (hs' : q0s hi) (z : Int) (x : Refutation) : z19 lo hi z x = some (chkR lo hi z x) := by
 apply y6t;rw [qed hs hs'];simp only [Option.bind_some, chkR];by_cases h : dE lo hi z = 0
 ·obtain ⟨h0, s, rfl, hlt⟩ := qcl h;obtain ⟨hv, hw, hlen, _, _⟩ := q1b h0;rw [h, q0b];simp only [cond_false, beq_self_eq_true, Bool.true_and, Int.toNat_natCast, chkB];by_cases hx : 0 ≤ x.Node
  ·rw [q0d hx, if_pos hx];simp only [cond_true];by_cases hA : x.A = 0
   ·rw [hA, q0y];by_cases hB : x.B = 0
    ·rw [hB, q0y, q3n hw.1];simp only [cond_true, Option.bind_some, decide_true, Bool.true_and];rw [q78 hw.1 (by rw [← hlen]; exact hlt), q25 (q8a hw.1 s)]
     simp only [Option.bind_some];cases hh : has (ndiff (full hi) s) x.Node with
     | false => rfl
     | true =>
      obtain ⟨v, ev, hvm⟩ := qyc hh;rw [ev, qrb hw hvm (by rw [← hlen]; exact hlt)]; rfl
    ·rw [q19 hB, decide_eq_false hB]; rfl
   ·rw [q19 hA, decide_eq_false hA]; rfl
  ·rw [q0a (by omega), if_neg hx, qnx (q1z hv.1 hlt) lo hv.bears]
   simp only [cond_false, Option.bind_some];by_cases h1 : x.Node = -1
   ·rw [h1, q0y, qqp (q1w s hv).small, qqp (q1w s hv).small];simp only [cond_true, Option.bind_some, decide_true, Bool.true_and];cases hA : quoZ (delC s lo) x.A with
    | false => rfl
    | true =>
     simp only [cond_true, Bool.true_and];cases hB : quoZ (delC s lo) x.B with
     | false => rfl
     | true => simp only [cond_true, Bool.true_and, qks hA hB]
   ·rw [q19 h1, decide_eq_false h1]; rfl
 ·rw [q0r h, beq_eq_false_iff_ne.2 h]; rfl
theorem qw7 {lo hi : Config} (hs : q0s lo) (hs' : q0s hi) (z : Int) (x : Refutation) : z5x lo hi z x = some (chkR lo hi z x) := by
 apply y76;rw [qlf hs hs'];simp only [Option.bind_some, chkR];by_cases h : dE lo hi z = 0
 ·obtain ⟨h0, s, rfl, hlt⟩ := qcl h;obtain ⟨hv, hw, hlen, _, _⟩ := q1b h0;rw [h, q0b];simp only [cond_false, beq_self_eq_true, Bool.true_and, Int.toNat_natCast, chkB];by_cases h1 : x.Node = -1
  ·rw [h1, q0b, if_neg (by decide), q7e (q1z hv.1 hlt) lo hv.bears]
   simp only [cond_false, Option.bind_some];rw [qqz (q1w s hv).small, qqz (q1w s hv).small];simp only [Option.bind_some, decide_true, Bool.true_and];cases hA : quoZ (delC s lo) x.A with
   | false => rfl
   | true =>
    simp only [cond_true, Bool.true_and];cases hB : quoZ (delC s lo) x.B with
    | false => rfl
    | true => simp only [cond_true, Bool.true_and, qks hA hB]
  ·rw [q0r h1, qyf hw (by rw [← hlen]; exact hlt)]
   simp only [cond_true, Option.bind_some];unfold qtp;by_cases hx : 0 ≤ x.Node
   ·rw [if_pos hx];cases hh : (has (ndiff (full hi) s) x.Node && q3r hi s x.Node.toNat) with
    | false => simp
    | true =>
     simp only [cond_true];by_cases hA : x.A = 0
     ·rw [hA, q0y];by_cases hB : x.B = 0
      ·rw [hB, q0y]; rfl
      ·rw [q19 hB]; simp [hB]
     ·rw [q19 hA]; simp [hA]
   ·rw [if_neg hx, decide_eq_false h1];have : has (ndiff (full hi) s) x.Node = false := by unfold has; rw [decide_eq_false hx]; rfl
    rw [this]; rfl
 ·rw [q0r h, beq_eq_false_iff_ne.2 h]; rfl
end Go.Proofs.YtbmelgbadedbbaaGreat
