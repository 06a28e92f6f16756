/- The laws of dispensable sets, on the machine. -/
import Derived.Test.YtbmelgbadedbbaaGreatP14Disp
import Derived.Test.YtbmelgbadedbbaaGreatP14Law16
namespace Go.Proofs.YtbmelgbadedbbaaGreat
open Go Go.Ab Go.Sort
def cfour : Config := uni 4 (flat 4 3)
set_option maxRecDepth 100000 in
theorem qt3 : alls cfour cfour 0 = [0, 1, 2, 4, 8, 15] := by decide +kernel
set_option maxRecDepth 100000 in
theorem qxq : refR cfour cfour 3 = (2, 0, 0, 0) := by decide +kernel
set_option maxRecDepth 100000 in
theorem qxf : chkB cfour cfour 3 2 0 0 = true := by decide +kernel
set_option maxRecDepth 100000 in
theorem qf7 : pairE cfour cfour = 0 := by decide +kernel
theorem y2r : law14_four = some cfour := by
 apply law14_four_le;apply ql0;simp only [q03 (show (0 : Int) < 4 by decide), cond_true, show addI .i64 0 1 = 1 from rfl]
 rw [q0e (by decide)]
 apply ql0;simp only [q03 (show (1 : Int) < 4 by decide), cond_true, show addI .i64 1 1 = 2 from rfl]
 rw [q0e (by decide)]
 apply ql0;simp only [q03 (show (2 : Int) < 4 by decide), cond_true, show addI .i64 2 1 = 3 from rfl]
 rw [q0e (by decide)]
 apply ql0;simp only [q03 (show (3 : Int) < 4 by decide), cond_true, show addI .i64 3 1 = 4 from rfl]
 rw [q0e (by decide)]
 apply ql0;rfl
theorem four_valid : ValidC cfour := (q1b qf7).1
theorem qgf : law14_awake = some true := by
 have hs := four_valid.small;have h1 : z31 cfour cfour 0 = some ([0, 1, 2, 4, 8, 15], 0) := by
  rw [qoy hs hs, show (0 : Int) = ((0 : Nat) : Int) from rfl, qj0 qf7 (Nat.two_pow_pos _), qt3]; rfl
 have h3 : dE cfour cfour 3 = 0 := qm8 qf7 (s := 3) (by decide)
 have h2 : z2q cfour cfour 3 = some (⟨2, 0, 0⟩, 0) := by
  rw [qie hs hs, refuR, if_pos h3, show Int.toNat 3 = 3 from rfl, qxq]; rfl
 have h4 : z19 cfour cfour 3 ⟨2, 0, 0⟩ = some true := by
  rw [q9f hs hs, chkR, h3, show Int.toNat 3 = 3 from rfl, qxf]; rfl
 apply law14_awake_le;rw [y2r];simp only [Option.bind_some];rw [h1];simp only [Option.bind_some];rw [h2];simp only [Option.bind_some, q0y, cond_true];rw [qrm (by decide), decide_eq_true rfl]
 simp only [Option.bind_some, cond_true];exact congrArg (fun o => Option.bind o fun x => some x) h4
theorem qwx {x : Int} {l : List Int} (hl : l.length < 1000000) : ∀ (suf : List Int) (i : Nat), l.drop i = suf → z63 x l ((l.length : Nat) : Int) (i : Int) = some (decide (x ∈ suf))
 | [], i, h => by
  apply y1k;rw [q0j h]; simp
 | y :: suf, i, h => by
  have hlt := q0h h;apply y1k;rw [q09 h];simp only [cond_true, q08 h];by_cases hy : x = y
  ·rw [hy, q0y]; simp
  ·rw [q19 hy, q02 (by omega)]
   simp only [cond_false, List.mem_cons, hy, false_or];exact qwx hl suf (i + 1) (q05 h)
theorem qn6 {x : Int} {l : List Int} (hl : l.length < 1000000) : mk_In l x = some (decide (x ∈ l)) := by
 apply qxc;exact qwx hl l 0 rfl
theorem qk2 {x : Nat} {l : List Nat} : ((x : Int) ∈ l.map Int.ofNat) ↔ x ∈ l := by
 simp only [List.mem_map];constructor
 ·rintro ⟨y, hy, e⟩;have : y = x := Int.ofNat.inj e;rw [← this]; exact hy
 ·intro h; exact ⟨x, h, rfl⟩
theorem qh7 {L : List Nat} (hL : L.length ≤ 1024) (hLt : ∀ s ∈ L, s < 1024) {yes : Bool} {x : Nat} (hx : x < 1024) (hin : yes = true → ∀ y ∈ L, x &&& y ∈ L) {a6 : List Int} {a8 a10 : Int} {a18 : List Int} {a20 : Int} {a22 a24 : List Member}
  (K : z1b (L.map Int.ofNat) yes a6 a8 (addI .i64 a10 1) a18 a20 a22 a24 = some true) : ∀ (suf : List Nat) (i : Nat), L.drop i = suf →
  z1c (L.map Int.ofNat) yes (x : Int) a6 a8 a10 (L.map Int.ofNat) ((L.length : Nat) : Int) (i : Int) a18 a20 a22 a24 = some true
 | [], i, h => by
  apply qyz;rw [q0j h]; exact K
 | y :: suf, i, h => by
  have hlt := q0h h;have hy : y ∈ L := List.mem_of_mem_drop (by rw [h]; exact List.mem_cons_self)
  have hy' := hLt y hy;have ih := qh7 hL hLt hx hin K suf (i + 1) (q05 h);apply qyz;rw [q09 h];simp only [cond_true, q08 (q1n h)];rw [q2o (by omega) (by omega), q02 (by omega), ih]
  cases yes with
  | false => rfl
  | true =>
   simp only [cond_true];rw [qn6 (by simp; omega), decide_eq_true (qk2.2 (hin rfl y hy))]
   rfl
theorem qid {L : List Nat} (hL : L.length ≤ 1024) (hLt : ∀ s ∈ L, s < 1024) {yes : Bool} (hin : yes = true → ∀ x ∈ L, ∀ y ∈ L, x &&& y ∈ L) {a18 : List Int} {a20 : Int} {a22 a24 : List Member} : ∀ (suf : List Nat) (i : Nat), L.drop i = suf →
  z1b (L.map Int.ofNat) yes (L.map Int.ofNat) ((L.length : Nat) : Int) (i : Int) a18 a20 a22 a24 = some true
 | [], i, h => by
  apply qzb;rw [q0j h, qgf]; rfl
 | x :: suf, i, h => by
  have hlt := q0h h;have hx : x ∈ L := List.mem_of_mem_drop (by rw [h]; exact List.mem_cons_self)
  have ih := qid hL hLt hin (a18 := a18) (a20 := a20) (a22 := a22) (a24 := a24) suf (i + 1) (q05 h);apply qzb;rw [q09 h];simp only [cond_true, q08 (q1n h), List.length_map];exact qh7 hL hLt (hLt x hx) (fun h => hin h x hx) (by rw [q02 (by omega)]; exact ih) _ 0 rfl
theorem qtd (t : List Int) : law14_DispensableMeets t = some true := by
 obtain ⟨tl, a1, a2⟩ := qpa t;obtain ⟨lo, hi, j, b1, b2, b3⟩ := qja (n := 6) (by decide) (by decide) a2
 obtain ⟨v, j2, c1, c2, c3⟩ := qzi b2.lok (by decide) b3
 have h0 := qiq b2 (by decide)
 obtain ⟨hv, hw, hl, _, _⟩ := q1b h0;apply law14_DispensableMeets_le;rw [a1];simp only [Option.bind_some];rw [show (6 : Int) = ((6 : Nat) : Int) from rfl, b1]
 simp only [Option.bind_some];rw [c1];simp only [Option.bind_some];rw [qoy hv.small hw.small, qj0 h0 c2];simp only [Option.bind_some];rw [qli hv.small, qcd hv c2];simp only [Option.bind_some, q0b, cond_false, List.length_map];refine qid (qj3 hv.1 v) (fun s hs => q1z hv.1 (qwm hs)) (fun hy x hx y hy' => ?_) _ 0 rfl
 obtain ⟨x1, x2, x3⟩ := q3h.1 hx;obtain ⟨y1, y2, y3⟩ := q3h.1 hy';exact q3h.2 ⟨(Sub.and_left _ _).trans x1, fun i hi => by rw [Nat.testBit_and, x2 i hi, y2 i hi]; rfl, meets b2 (by decide) x3 y3 (by simpa using hy) x2 y2 x1 y1⟩
theorem qpe {c : Config} (hv : ValidC c) {L : List Nat} (hL : L.length ≤ 1024) (hLt : ∀ s ∈ L, s < 1024) (hin : ∀ s ∈ L, Sub (ndiff (full c) (decl c)) s) {a9 : List Int} {a11 : Int} {a15 : List Member} : ∀ (suf : List Nat) (i : Nat), L.drop i = suf →
  z1k ((full c : Nat) : Int) (L.map Int.ofNat) ((L.length : Nat) : Int) (i : Int) a9 a11 c.Members a15 = some true
 | [], i, h => by
  apply qzc;rw [q0j h, qgf]; rfl
 | s :: suf, i, h => by
  have hlt := q0h h;have hs : s ∈ L := List.mem_of_mem_drop (by rw [h]; exact List.mem_cons_self)
  have hs' := hLt s hs;have hf := q8o hv.1;have hdl := q6c c;have hnd : ndiff (full c) (decl c) < 1024 := q4p hf;have hle := hv.1;have e : s &&& ndiff (full c) (decl c) = ndiff (full c) (decl c) := (Sub.and_right _ _).antisymm fun i hi => by rw [Nat.testBit_and, hin s hs i hi, hi]; rfl
  apply qzc;rw [q09 h];simp only [cond_true, q08 (q1n h)];rw [show Config.mk c.Members = c from rfl, q31 c (by omega)]
  simp only [Option.bind_some];rw [q2j (by omega) (by omega), q2o (by omega) (by omega), e, q0b, q02 (by omega)]
  exact qpe hv hL hLt hin suf (i + 1) (q05 h)
theorem qpd {lo hi : Config} (h0 : pairE lo hi = 0) {ill : Nat} (hill : ill < 2 ^ lo.Members.length) {a10 : List Int} {a12 : Int} (K : z1k ((full lo : Nat) : Int) ((alls lo hi ill).map Int.ofNat) (((alls lo hi ill).length : Nat) : Int) 0 a10 a12 lo.Members hi.Members = some true) : ∀ (j x : Nat), x + j = 2 ^ lo.Members.length →
  z1j ((full lo : Nat) : Int) (ill : Int) ((alls lo hi ill).map Int.ofNat) (x : Int) a10 a12 lo.Members hi.Members = some true
 | 0, x, h => by
  have : full lo < x := by have := Nat.two_pow_pos lo.Members.length; unfold full; omega
  apply y0m;rw [q0a (by omega)]
  simp only [cond_false, List.length_map];exact K
 | j + 1, x, h => by
  obtain ⟨hv, hw, hl, _, _⟩ := q1b h0;have hx : x < 2 ^ lo.Members.length := by omega
  have hx' := q1z hv.1 hx;have hi' := q1z hv.1 hill;have hfx : x ≤ full lo := by unfold full; omega
  have ih := qpd h0 hill K j (x + 1) (by omega)
  have hL := qj3 (hi := hi) hv.1 ill;apply y0m;rw [q0d (by omega)]
  simp only [cond_true];rw [show Config.mk lo.Members = lo from rfl, show Config.mk hi.Members = hi from rfl, qzm hv.small hw.small, qna h0 hx]
  simp only [Option.bind_some, q0b, cond_false];rw [q2o (by omega) (by omega), qwy, qsf, qn6 (by simp; omega), q02 (by omega), ih]
  simp only [Option.bind_some];have hm : decide ((x : Int) ∈ (alls lo hi ill).map Int.ofNat) = ((ndiff ill x == 0) && isB lo hi x) := by
   rw [Bool.eq_iff_iff, decide_eq_true_eq, qk2, q3h, Bool.and_eq_true, beq_iff_eq, q33];exact ⟨fun h => h.2, fun h => ⟨qb1.1 hx, h⟩⟩
  rw [hm];cases (ndiff ill x == 0) with
  | false => rfl
  | true => simp
theorem y2n (t : List Int) : law14_DispensableAll t = some true := by
 obtain ⟨tl, a1, a2⟩ := qpa t;obtain ⟨lo, hi, j, b1, b2, b3⟩ := qja (n := 5) (by decide) (by decide) a2
 obtain ⟨v, j2, c1, c2, c3⟩ := qzi b2.lok (by decide) b3
 have h0 := qiq b2 (by decide)
 obtain ⟨hv, hw, hl, _, _⟩ := q1b h0;have hL := qj3 (hi := hi) hv.1 v;apply law14_DispensableAll_le;rw [a1];simp only [Option.bind_some];rw [show (5 : Int) = ((5 : Nat) : Int) from rfl, b1]
 simp only [Option.bind_some];rw [q0n (by omega), c1]
 simp only [Option.bind_some];rw [qoy hv.small hw.small, qj0 h0 c2];simp only [Option.bind_some, q0b, cond_false];rw [q2g hv.1, show ((2 ^ lo.Members.length - 1 : Nat) : Int) = ((full lo : Nat) : Int) from rfl, qn6 (by simp; omega), decide_eq_true (qk2.2 (qlt b2 (by decide) (qb1.1 c2)))]
 simp only [Option.bind_some, Bool.not_true, cond_false];refine qpd h0 c2 ?_ (2 ^ lo.Members.length) 0 (by omega)
 exact qpe hv hL (fun s hs => q1z hv.1 (qwm hs)) (fun s hs => qxv b2 (by decide) (q3h.1 hs).2.2) _ 0 rfl
theorem qcx {n : Nat} {lo hi : Config} (h : PairOk n lo hi) (hn : n ≤ 7) {b : Nat} (hb : isB lo hi b = true) (x : Refutation) : chkR lo hi (b : Int) x = false := by
 cases hc : chkR lo hi (b : Int) x with
 | false => rfl
 | true =>
  unfold chkR at hc;rw [Bool.and_eq_true, Int.toNat_natCast] at hc;rw [y2m h (by omega) hc.2] at hb
  cases hb
theorem qo2 (t : List Int) (r : Refutation) : law14_DispensableRefutes t r = some true := by
 obtain ⟨tl, a1, a2⟩ := qpa t;obtain ⟨lo, hi, j, b1, b2, b3⟩ := qja (n := 5) (by decide) (by decide) a2
 have h0 := qiq b2 (by decide)
 obtain ⟨hv, hw, hl, _, _⟩ := q1b h0;have hp := pow10 hv.1;have hp1 := Nat.two_pow_pos lo.Members.length;obtain ⟨b', j2, c1, c2, c3, c4⟩ := N_ok (n := ((2 ^ lo.Members.length : Nat) : Int)) (by omega) (by omega) b3
 obtain ⟨b, rfl⟩ := Int.eq_ofNat_of_zero_le c2;have hb : b < 2 ^ lo.Members.length := by omega
 apply law14_DispensableRefutes_le;rw [a1];simp only [Option.bind_some];rw [show (5 : Int) = ((5 : Nat) : Int) from rfl, b1]
 simp only [Option.bind_some];have hle := hv.1;rw [q0n (by omega), shl1 (by omega) (by omega), Int.toNat_natCast, c1]
 simp only [Option.bind_some];rw [y62 hv.small hw.small, qna h0 hb];simp only [Option.bind_some];rw [qie hv.small hw.small, refuR, if_pos (qm8 h0 hb), Int.toNat_natCast];simp only [Option.bind_some, q0b, cond_false];cases hi' : isB lo hi b with
 | false =>
  obtain ⟨r1, r2⟩ := qvk b2 (by decide) hi'
  have hck : chkR lo hi (b : Int) (refT (refR lo hi b)).1 = true := by
   unfold chkR refT;rw [qm8 h0 hb, Int.toNat_natCast, r2]; rfl
  have e : (refT (refR lo hi b)).2 = 0 := r1;rw [e, q19 (by decide), q0b]
  simp only [beq_self_eq_true, Bool.not_true, cond_false, Bool.not_false, cond_true];rw [qw7 hv.small hw.small, hck];simp only [Option.bind_some, Bool.not_true, cond_false];rw [q9f hv.small hw.small, hck];simp only [Option.bind_some, Bool.not_true, cond_false, qgf]
 | true =>
  obtain ⟨d1, i1, e1, e2, e3, e4⟩ := N_ok (n := 6) (by decide) (by decide) c4
  obtain ⟨d2, i2, f1, f2, f3, f4⟩ := N_ok (n := 64) (by decide) (by decide) e4
  obtain ⟨d3, i3, g1, g2, g3, g4⟩ := N_ok (n := 64) (by decide) (by decide) f4
  have e : (refT (refR lo hi b)).2 = 11 := by rw [qyg b2 (by decide) hi']; rfl
  rw [e, q0y];simp only [beq_self_eq_true, Bool.not_true, cond_false, cond_true];rw [q9f hv.small hw.small, qcx b2 (by decide) hi']
  simp only [Option.bind_some, cond_false];rw [e1];simp only [Option.bind_some];rw [q9f hv.small hw.small, qcx b2 (by decide) hi']
  simp only [Option.bind_some, cond_false];rw [f1];simp only [Option.bind_some];rw [g1];simp only [Option.bind_some];rw [q9f hv.small hw.small, qcx b2 (by decide) hi']
  simp only [Option.bind_some, cond_false, qgf]
theorem qi5 {lo hi : Config} (h0 : pairE lo hi = 0) {tl : List Int} : ∀ (k : Nat) (i : Int), k ≤ 6 → q0p tl i →
  z17 ((full lo : Nat) : Int) ((6 - k : Nat) : Int) tl i lo.Members hi.Members = some true
 | 0, i, _, ht => by
  apply y05;rw [q00 (by decide), qgf]; rfl
 | k + 1, i, hk, ht => by
  obtain ⟨hv, hw, hl, _, _⟩ := q1b h0;obtain ⟨x, j, c1, c2, c3, c4⟩ := N_ok (n := 64) (by decide) (by decide) ht
  obtain ⟨y, rfl⟩ := Int.eq_ofNat_of_zero_le c2;have hf := q8o hv.1;have ih := qi5 h0 k j (by omega) c4
  have hb : y &&& full lo < 2 ^ lo.Members.length := qb1.2 (Sub.and_right _ _);have hb' := q1z hv.1 hb;have hfe : full lo = full hi := by unfold full; rw [hl]
  apply y05;rw [q03 (by omega), c1]
  simp only [cond_true, Option.bind_some];rw [q2o (by omega) (by omega), show Config.mk lo.Members = lo from rfl, show Config.mk hi.Members = hi from rfl, qzm hv.small hw.small, qna h0 hb, qct hv.1 hb]
  simp only [Option.bind_some, q5h];rw [q7e hb' lo hv.bears];simp only [Option.bind_some];rw [qlo (q1w _ hv).small (q1w _ hv).cerr, show addI .i64 ((6 - (k + 1) : Nat) : Int) 1 = ((6 - k : Nat) : Int) from by rw [q02 (by omega)]; congr 1; omega, ih]
  simp only [Option.bind_some, q0b, cond_false];unfold isB q85 q4y;rw [← hfe];cases h1 : (ndiff (full lo) (y &&& full lo) == 0) with
  | true =>
   simp only [cond_true, Bool.true_or, Bool.true_and, beq_self_eq_true, Bool.not_true, cond_false]
  | false =>
   simp only [cond_false, Bool.false_or];rw [q9m (q4p hf) hw.small];simp only [Option.bind_some];cases quoB hi (ndiff (full lo) (y &&& full lo)) with
   | true => simp only [cond_true, Bool.true_and, beq_self_eq_true, Bool.not_true, cond_false]
   | false => rfl
theorem qu3 (t : List Int) : law14_DispensableMeans t = some true := by
 obtain ⟨tl, a1, a2⟩ := qpa t;obtain ⟨lo, hi, j, b1, b2, b3⟩ := qja (n := 6) (by decide) (by decide) a2
 have h0 := qiq b2 (by decide)
 obtain ⟨hv, hw, hl, _, _⟩ := q1b h0;apply law14_DispensableMeans_le;rw [a1];simp only [Option.bind_some];rw [show (6 : Int) = ((6 : Nat) : Int) from rfl, b1]
 simp only [Option.bind_some];rw [q0n (by omega), q2g hv.1]
 exact qi5 h0 6 j (by decide) b3
end Go.Proofs.YtbmelgbadedbbaaGreat
