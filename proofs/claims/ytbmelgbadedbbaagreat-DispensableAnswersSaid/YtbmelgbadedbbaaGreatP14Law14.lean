/- The laws of dispensable sets, on the machine. -/
import Derived.Test.YtbmelgbadedbbaaGreatP14Disp
import Derived.Test.YtbmelgbadedbbaaGreatP14Law16
namespace Go.Proofs.YtbmelgbadedbbaaGreat
open Go Go.Ab Go.Sort
def cfour : Config := uni 4 (flat 4 3)
set_option maxRecDepth 100000 in
theorem qth : alls cfour cfour 0 = [0, 1, 2, 4, 8, 15] := by decide +kernel
set_option maxRecDepth 100000 in
theorem qxj : refR cfour cfour 3 = (2, 0, 0, 0) := by decide +kernel
set_option maxRecDepth 100000 in
theorem qxp : chkB cfour cfour 3 2 0 0 = true := by decide +kernel
set_option maxRecDepth 100000 in
theorem qfz : pairE cfour cfour = 0 := by decide +kernel
theorem y33 : law14_four = some cfour := by
 apply law14_four_le;apply ql3;simp only [q03 (show (0 : Int) < 4 by decide), cond_true, show addI .i64 0 1 = 1 from rfl]
 rw [q06 (by decide)]
 apply ql3;simp only [q03 (show (1 : Int) < 4 by decide), cond_true, show addI .i64 1 1 = 2 from rfl]
 rw [q06 (by decide)]
 apply ql3;simp only [q03 (show (2 : Int) < 4 by decide), cond_true, show addI .i64 2 1 = 3 from rfl]
 rw [q06 (by decide)]
 apply ql3;simp only [q03 (show (3 : Int) < 4 by decide), cond_true, show addI .i64 3 1 = 4 from rfl]
 rw [q06 (by decide)]
 apply ql3;rfl
theorem four_valid : ValidC cfour := (q1c qfz).1
theorem qp1 : law14_awake = some true := by
 have hs := four_valid.small;have h1 : z3p cfour cfour 0 = some ([0, 1, 2, 4, 8, 15], 0) := by
  rw [qun hs hs, show (0 : Int) = ((0 : Nat) : Int) from rfl, qxf qfz (Nat.two_pow_pos _), qth]; rfl
 have h3 : dE cfour cfour 3 = 0 := qza qfz (s := 3) (by decide)
 have h2 : z2r cfour cfour 3 = some (⟨2, 0, 0⟩, 0) := by
  rw [qih hs hs, refuR, if_pos h3, show Int.toNat 3 = 3 from rfl, qxj]; rfl
 have h4 : z30 cfour cfour 3 ⟨2, 0, 0⟩ = some true := by
  rw [qmc hs hs, chkR, h3, show Int.toNat 3 = 3 from rfl, qxp]; rfl
 apply law14_awake_le;rw [y33];simp only [Option.bind_some];rw [h1];simp only [Option.bind_some];rw [h2];simp only [Option.bind_some, q0p, cond_true];rw [qhx (by decide), decide_eq_true rfl]
 simp only [Option.bind_some, cond_true];exact congrArg (fun o => Option.bind o fun x => some x) h4
theorem qqy {y1 y2 : Config} (hs : q0l y1) (hs' : q0l y2) {a0 z : Int} {a8 : List Arr2_Config} {a10 a12 : Int} {a14 : List Int} {a16 a18 : Int} {rs : List Refutation} (hr : rs.length ≤ 100) {a26 a28 : List Member} {a30 a32 a34 : Int} {a36 : List Int} {a38 : Int} {a40 a42 : List Member} {a48 a50 a52 a54 a56 a58 : Int}
  (K : z1a a0 a8 a10 a12 a14 a16 (addI .i64 a18 1) a26 a28 a30 a32 a34 a36 a38 a40 a42 y1.Members y2.Members = some true) : ∀ (suf : List Refutation) (i : Nat), rs.drop i = suf →
  z1h a0 z a8 a10 a12 a14 a16 a18 rs ((rs.length : Nat) : Int) (i : Int) a26 a28 a30 a32 a34 a36 a38 a40 a42 y1.Members y2.Members a48 a50 a52 a54 a56 a58 = some true
 | [], i, h => by
  apply y1f;rw [q0j h]; exact K
 | r :: suf, i, h => by
  have hlt := q0i h;have ih := qqy hs hs' (z := z) (a48 := a48) (a50 := a50) (a52 := a52) (a54 := a54) (a56 := a56) (a58 := a58) hr K suf (i + 1) (q04 h);apply y1f;rw [q0a h];simp only [cond_true, q08 h];rw [show Config.mk y1.Members = y1 from rfl, show Config.mk y2.Members = y2 from rfl, qmc hs hs', qwi hs hs']
  simp only [Option.bind_some, beq_self_eq_true, Bool.not_true, cond_false];rw [q02 (by omega)]
  exact ih
theorem qq1 {y1 y2 : Config} (hs : q0l y1) (hs' : q0l y2) {n : Nat} {lo : Config} (hlo : ConfOk n lo) (hn : n ≤ 10) {a0 : Int} {a6 : List Arr2_Config} {a8 a10 : Int} {zs : List Int} (hz : zs.length ≤ 100) {a18 a20 : List Member} {a22 a24 a26 : Int} {tl : List Int} {a34 : List Member}
  (K : ∀ i, q0n tl i → z14 a0 a6 a8 (addI .i64 a10 1) a18 a20 a22 a24 a26 tl i lo.Members a34 = some true) : ∀ (suf : List Int) (i : Nat) (ti : Int), zs.drop i = suf → q0n tl ti →
  z1a a0 a6 a8 a10 zs ((zs.length : Nat) : Int) (i : Int) a18 a20 a22 a24 a26 tl ti lo.Members a34 y1.Members y2.Members = some true
 | [], i, ti, h, ht => by
  obtain ⟨v, j, g1, g2, g3⟩ := y1c hlo hn ht;apply qyy;rw [q0j h, show Config.mk lo.Members = lo from rfl, g1]
  simp only [cond_false, Option.bind_some];rw [show Config.mk y1.Members = y1 from rfl, show Config.mk y2.Members = y2 from rfl, qun hs hs', y3f hs hs']
  simp only [Option.bind_some, q0d, cond_false];have hL : (allR y1 y2 (v : Int)).1.length ≤ 1024 := by
   unfold allR;split
   ·rename_i hd;have hv := (q1c (q7x hd).1).1;simp only [List.length_map];exact qxg hv.1 _
   ·simp
  rw [qhx (by omega), decide_eq_true rfl]
  simp only [Option.bind_some, Bool.not_true, cond_false];exact K _ g3
 | z :: suf, i, ti, h, ht => by
  have hlt := q0i h;obtain ⟨d1, i1, e1, e2, e3, e4⟩ := N_ok (n := 5) (by decide) (by decide) ht
  obtain ⟨d2, i2, f1, f2, f3, f4⟩ := N_ok (n := 32) (by decide) (by decide) e4
  obtain ⟨d3, i3, g1, g2, g3, g4⟩ := N_ok (n := 32) (by decide) (by decide) f4
  have ih := qq1 hs hs' hlo hn hz K suf (i + 1) i3 (q04 h) g4;apply qyy;rw [q0a h];simp only [cond_true, q08 h];rw [show Config.mk y1.Members = y1 from rfl, show Config.mk y2.Members = y2 from rfl, qkq hs, ql4 hs, ql1 hs', qkc hs', y3s hs hs', y7g hs hs', qih hs hs', qsf hs hs']
  simp only [Option.bind_some, q0d, cond_false, beq_self_eq_true, Bool.not_true, q0p, Bool.and_self];rw [e1];simp only [Option.bind_some];rw [f1];simp only [Option.bind_some];rw [g1];simp only [Option.bind_some];exact qqy hs hs' (by simp) (by rw [q02 (by omega)]; exact ih) _ 0 rfl
theorem qpl {n : Nat} {lo : Config} (hlo : ConfOk n lo) (hn : n ≤ 10) {a0 : Int} {ys : List Arr2_Config} (hl : ys.length ≤ 100) (hs : ∀ y ∈ ys, q0l y.e0 ∧ q0l y.e1) {a11 a13 : List Member} {a15 a17 a19 : Int} {tl : List Int} {a27 : List Member} : ∀ (suf : List Arr2_Config) (i : Nat) (ti : Int), ys.drop i = suf → q0n tl ti →
  z14 a0 ys ((ys.length : Nat) : Int) (i : Int) a11 a13 a15 a17 a19 tl ti lo.Members a27 = some true
 | [], i, ti, h, ht => by
  apply y1o;rw [q0j h, qp1]; rfl
 | y :: suf, i, ti, h, ht => by
  have hlt := q0i h;obtain ⟨s1, s2⟩ := hs y (List.mem_of_mem_drop (by rw [h]; exact List.mem_cons_self))
  have go : ∀ t', q0n tl t' → z14 a0 ys ((ys.length : Nat) : Int) ((i + 1 : Nat) : Int) a11 a13 a15 a17 a19 tl t' lo.Members a27 = some true := fun t' ht' => qpl hlo hn hl hs suf (i + 1) t' (q04 h) ht'
  obtain ⟨v, j, g1, g2, g3⟩ := y1c hlo hn ht;obtain ⟨d, j2, k1, k2, k3, k4⟩ := N_ok (n := 32) (by decide) (by decide) g3
  apply y1o;rw [q0a h];simp only [cond_true, q08 h];rw [qmu s1 s2, qme s1 s2];simp only [Option.bind_some, q0d, cond_false];cases ltB 6 ((y.e0.Members.length : Nat) : Int) with
  | true =>
   simp only [cond_true];rw [q02 (by omega)]
   exact go ti ht
  | false =>
   simp only [cond_false];rw [show Config.mk lo.Members = lo from rfl, g1]
   simp only [Option.bind_some];rw [k1];simp only [Option.bind_some];exact qq1 s1 s2 hlo hn (by simp) (fun t' ht' => by rw [q02 (by omega)]; exact go t' ht') _ 0 j2 rfl k4
theorem qiv (t : List Int) (r o : Config) (b : Int) (x : Refutation) (hr : ∀ m ∈ r.Members, raw m.Trust = true) (ho : ∀ m ∈ o.Members, raw m.Trust = true) : law14_DispensableAnswers t r o b x = some true := by
 obtain ⟨b1, s1, s2⟩ := qlm hr;obtain ⟨b2, s3, s4⟩ := qlm ho;apply law14_DispensableAnswers_le;rw [s1];cases b1 with
 | false => simp only [Option.bind_some, Bool.not_false, cond_true, qp1]
 | true =>
  simp only [Option.bind_some, Bool.not_true, cond_false];rw [s3];cases b2 with
  | false => simp only [Option.bind_some, Bool.not_false, cond_true, qp1]
  | true =>
   simp only [Option.bind_some, Bool.not_true, cond_false];obtain ⟨tl, a1, a2⟩ := y5h t;obtain ⟨lo, hi, j, c1, c2, c3⟩ := y2k (n := 5) (by decide) (by decide) a2
   have hcb := c2.lok.CB' (by decide)
   have hcb' := c2.hik.CB' (by decide)
   obtain ⟨d, j2, d1, d2, d3⟩ := qxo hcb.1 hcb.2 c3;rw [a1];simp only [Option.bind_some];rw [show (5 : Int) = ((5 : Nat) : Int) from rfl, c1]
   simp only [Option.bind_some];rw [d1];simp only [Option.bind_some];have k1 := (CB.of hcb).small;have k2 := (CB.of hcb').small;have k3 : q0l d := d2.small;have k4 : q0l r := by
    obtain ⟨g1, g2⟩ := s2 rfl;exact ⟨by omega, fun m hm => by have := g2 m hm; unfold Small; omega⟩
   have k5 : q0l o := by
    obtain ⟨g1, g2⟩ := s4 rfl;exact ⟨by omega, fun m hm => by have := g2 m hm; unfold Small; omega⟩
   refine qpl c2.lok (by decide) (by simp) (fun w hw => ?_) _ 0 j2 rfl d3
   simp only [List.mem_cons, List.not_mem_nil, or_false] at hw;rcases hw with rfl | rfl | rfl | rfl | rfl
   ·exact ⟨k1, k2⟩
   ·exact ⟨k2, k1⟩
   ·exact ⟨k3, k2⟩
   ·exact ⟨k4, k5⟩
   ·exact ⟨k4, k4⟩
end Go.Proofs.YtbmelgbadedbbaaGreat
