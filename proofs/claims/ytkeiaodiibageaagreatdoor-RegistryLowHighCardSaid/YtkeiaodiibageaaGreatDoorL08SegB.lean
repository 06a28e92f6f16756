/- Laws of the printed functions. -/
import Derived.Test.YtkeiaodiibageaaGreatDoorL08SegA
import Derived.Test.YtkeiaodiibageaaGreatDoorRows
import Derived.ProofKit
import Derived.LaidMore
import Derived.OpenShut
import Derived.Stop.Joined
namespace Go.Proofs.YtkeiaodiibageaaGreatDoor
open Go Go.Ab Classical
theorem qvu {n k : Nat} (hk : k < n) (hn : n ≤ 10) : Dr n ⟨1, [(k : Int)], []⟩ :=
 ⟨ql8 (by simp only [inR, aT, dT']; omega), by simp [size, sizes], by simp [depth, q3a], q8t (by simp; omega) rfl⟩
theorem ql4 {n : Nat} (h1 : 1 ≤ n) (hn : n ≤ 10) {tl : List Int} {k : Nat} (hk : k < n) {acc : List (List Trust)} (hacc : acc.length < 100) {P : List (List Trust) × List Int × Int → Prop}
  (H : ∀ l j, 1 ≤ l.length → l.length ≤ 4 → (∀ y ∈ l, Dr n y) → q0o tl j → ∃ r, z2q (n : Int) 4 (acc ++ [l]) ((k + 1 : Nat) : Int) tl j = some r ∧ P r) :
  ∀ (r : Nat) (l : List Trust) (j : Int), l.length + r ≤ 4 → 1 ≤ l.length + r → (∀ y ∈ l, Dr n y) → q0o tl j → ∃ res, z0i (n : Int) 4 acc (k : Int) l (r : Int) tl j = some res ∧ P res
 | 0, l, j, g1, g2, g3, g4 => by
  obtain ⟨res, e1, e2⟩ := H l j (by omega) (by omega) g3 g4;refine ⟨res, ?_, e2⟩;apply qo1;rw [q00 (by omega), cF, q0k (by simp [q0d]; omega), q03 (by omega)];exact e1
 | r + 1, l, j, g1, g2, g3, g4 => by
  have hsub : subI .i64 ((r + 1 : Nat) : Int) 1 = (r : Int) := by rw [q34 (by omega) (by omega)]; omega
  have hcap : ∀ (x : Trust) (o : Option (List (List Trust) × List Int × Int)), capOk (List.length l + List.length ([x] : List Trust)) o = o := fun x o => q0k (by simp [q0d]; omega) o
  have add : ∀ (x : Trust) (j : Int), Dr n x → q0o tl j → ∃ res, z0i (n : Int) 4 acc (k : Int) (l ++ [x]) (r : Int) tl j = some res ∧ P res := fun x j hx hj => ql4 h1 hn hk hacc H r (l ++ [x]) j (by simp; omega) (by simp; omega) (fun y hy => by
   rcases List.mem_append.1 hy with e | e
   ·exact g3 y e
   ·simp at e; subst e; exact hx) hj
  have tail : ∀ (y : Trust) (j : Int), Dr n y → q0o tl j → ∃ res, (bif (ltB 0 ((List.length l : Nat) : Int)) then
     Option.bind (z0r 4 tl j) fun x7 =>
     bif (eqB x7.1 0) then
      nth l 0 fun _ =>
      nthN l (Int.toNat 0) fun y8 =>
      capOk (List.length l + List.length ([y8] : List (Trust))) <|
      z0i (n : Int) 4 acc (k : Int) (l ++ ([y8] : List (Trust))) (subI .i64 ((r + 1 : Nat) : Int) 1) x7.2.1 x7.2.2
     else
      capOk (List.length l + List.length ([y] : List (Trust))) <|
      z0i (n : Int) 4 acc (k : Int) (l ++ ([y] : List (Trust))) (subI .i64 ((r + 1 : Nat) : Int) 1) x7.2.1 x7.2.2
    else
     capOk (List.length l + List.length ([y] : List (Trust))) <|
     z0i (n : Int) 4 acc (k : Int) (l ++ ([y] : List (Trust))) (subI .i64 ((r + 1 : Nat) : Int) 1) tl j) = some res ∧ P res := by
   intro y j hy hj;by_cases h0 : l.length = 0
   ·obtain ⟨res, e1, e2⟩ := add y j hy hj;refine ⟨res, ?_, e2⟩;rw [q00 (by omega), cF, hcap, hsub]; exact e1
   ·obtain ⟨v, j2, v1, v2, v3, v4⟩ := N_ok (n := 4) (by omega) (by omega) hj;have hl0 : 0 < l.length := by omega
    have hg : l[(0 : Int).toNat]? = some l[0] := List.getElem?_eq_getElem hl0;by_cases hv : v = 0
    ·obtain ⟨res, e1, e2⟩ := add l[0] j2 (g3 _ (List.getElem_mem hl0)) v4;refine ⟨res, ?_, e2⟩;rw [q01 (by omega), cT, v1, bS]
     dsimp only
     rw [hv, q6u, cT, q06 (by omega) hg, q1g hg, hcap, hsub];exact e1
    ·obtain ⟨res, e1, e2⟩ := add y j2 hy v4;refine ⟨res, ?_, e2⟩;rw [q01 (by omega), cT, v1, bS]
     dsimp only
     rw [show eqB v 0 = false by simp [eqB, hv], cF, hcap, hsub];exact e1
  obtain ⟨t, j1, t1, ⟨t2, t2b⟩, t3, t4⟩ := qnf (n := (n : Int)) (by omega) (by omega) 1 (by decide) g4;rw [show ((1 + 1 : Nat) : Int) = 2 from rfl] at t1;by_cases hs : size t ≤ 40
  ·by_cases hd : depth t ≤ 3
   ·obtain ⟨res, e1, e2⟩ := tail t j1 ⟨t2, hs, hd, t2b⟩ t4;refine ⟨res, ?_, e2⟩;apply qo1;rw [q01 (by omega), cT, t1, bS]
    dsimp only
    rw [q6k t t3, bS, q00 (by omega), cF, q59 t t3, bS, q00 (by omega), cF];simp only [Trust.eta];exact e1
   ·obtain ⟨res, e1, e2⟩ := tail _ j1 (qvu hk hn) t4;refine ⟨res, ?_, e2⟩;apply qo1;rw [q01 (by omega), cT, t1, bS]
    dsimp only
    rw [q6k t t3, bS, q00 (by omega), cF, q59 t t3, bS, q01 (by omega), cT];simp only [Trust.eta];exact e1
  ·obtain ⟨res, e1, e2⟩ := tail _ j1 (qvu hk hn) t4;refine ⟨res, ?_, e2⟩;apply qo1;rw [q01 (by omega), cT, t1, bS]
   dsimp only
   rw [q6k t t3, bS, q01 (by omega), cT];simp only [Trust.eta];exact e1
theorem qs1 {n : Nat} (h1 : 1 ≤ n) (hn : n ≤ 10) {tl : List Int} {i : Int} (h : q0o tl i) : ∃ L j, z4d (n : Int) 4 tl i = some (L, tl, j) ∧ L.length = n ∧ DrL n L ∧ q0o tl j := by
 have l1 : ∀ (m k : Nat) (acc : List (List Trust)) (j : Int), m + k = n → acc.length = k → DrL n acc → q0o tl j → ∃ r, z2q (n : Int) 4 acc (k : Int) tl j = some r ∧ ∃ L j', r = (L, tl, j') ∧ L.length = n ∧ DrL n L ∧ q0o tl j' := by
  intro m;induction m with
  | zero =>
   intro k acc j hk ha hd hj;refine ⟨(acc, tl, j), ?_, acc, j, rfl, by omega, hd, hj⟩;apply qvw;rw [q00 (by omega), cF]
  | succ m ih =>
   intro k acc j hk ha hd hj;obtain ⟨v, j1, v1, v2, v3, v4⟩ := q6w (a := 1) (b := 4) (by omega) (by omega) (by omega) hj;obtain ⟨r, rfl⟩ : ∃ r : Nat, v = (r : Int) := ⟨v.toNat, by omega⟩;obtain ⟨res, e1, e2⟩ := ql4 h1 hn (k := k) (by omega) (acc := acc) (by omega) (P := fun r => ∃ L j', r = (L, tl, j') ∧ L.length = n ∧ DrL n L ∧ q0o tl j') (fun l j g1 g2 g3 g4 => ih (k + 1) (acc ++ [l]) j (by omega) (by simp; omega) (fun x hx => by
    rcases List.mem_append.1 hx with e | e
    ·exact hd x e
    ·simp at e; subst e; exact ⟨g1, g2, g3⟩) g4) r [] j1 (by simp; omega) (by simp; omega) (fun y hy => by cases hy) v4
   refine ⟨res, ?_, e2⟩;apply qvw;rw [q01 (by omega), cT, v1, bS];exact e1
 obtain ⟨r, e1, L, j', rfl, e2⟩ := l1 n 0 [] i rfl rfl (fun x hx => by cases hx) h;exact ⟨L, j', y16 _ _ _ _ _ e1, e2⟩
theorem lh_l4 {n k : Nat} {L : List (List Trust)} {x : List Trust} {ms hs : List Member} {s : Nat} (hx : L[k]? = some x) (hxl : x.length < 1000) (hsm : ∀ y ∈ x, valid y = true) (hs10 : s < 1024) {d e : List Trust} (hd0 : d ≠ []) (he0 : e ≠ []) (hd : ∀ y, y ∈ d ↔ y ∈ x) (he : ∀ y, y ∈ e ↔ y ∈ x)
  (hm : ms[k]? = some (memJ false d)) (hh : hs[k]? = some (memJ true e)) (hvd : valid (memJ false d).Trust = true) (hve : valid (memJ true e).Trust = true) {c len kk j : Int} {tl : List Int} {r : Bool} (K : z0o (n : Int) (k : Int) x (addI .i64 c 1) L len kk tl j ms hs = some r) :
  ∀ (suf pre : List Trust), x = pre ++ suf → z0j (n : Int) (k : Int) x c (s : Int) (pre.any (sat s)) (pre.all (sat s)) L len kk x ((x.length : Nat) : Int) ((pre.length : Nat) : Int) tl j ms hs = some r
 | [], pre, e0 => by
  rw [List.append_nil] at e0;subst e0;apply qx6;have h1 : sat s (memJ false d).Trust = x.any (sat s) := by
   rw [Bool.eq_iff_iff, qvm hd0, List.any_eq_true];exact ⟨fun ⟨y, h1, h2⟩ => ⟨y, (hd y).1 h1, h2⟩, fun ⟨y, h1, h2⟩ => ⟨y, (hd y).2 h1, h2⟩⟩
  have h2 : sat s (memJ true e).Trust = x.all (sat s) := by
   rw [Bool.eq_iff_iff, qsv he0, List.all_eq_true];exact ⟨fun h y h1 => h y ((he y).2 h1), fun h y h1 => h y ((he y).1 h1)⟩
  rw [q00 (Int.le_refl _), cF, q06 (by omega) (by rw [tN]; exact hm), q7o hs10 _ (q3r hvd), bS, h1, beq_self_eq_true, nT, cF,
   q06 (by omega) (by rw [tN]; exact hh), q7o hs10 _ (q3r hve), bS, h2, beq_self_eq_true, nT, cF]
  exact K
 | y :: suf, pre, e0 => by
  have hdr : x.drop pre.length = y :: suf := by rw [e0]; simp
  have hlt := q0l hdr;have hy : y ∈ x := by rw [e0]; simp
  have hsy := q7o hs10 y (q3r (hsm y hy));have ih := lh_l4 hx hxl hsm hs10 hd0 he0 hd he hm hh hvd hve K suf (pre ++ [y]) (by rw [e0]; simp);rw [List.any_append, List.all_append, List.length_append] at ih;simp only [List.any_cons, List.any_nil, Bool.or_false, List.all_cons, List.all_nil, Bool.and_true, List.length_cons, List.length_nil, Nat.zero_add] at ih;apply qx6;rw [q09 hdr, cT, q08 hdr, hsy, q03 (by omega)];cases h1 : pre.any (sat s) <;> cases h2 : pre.all (sat s) <;> rw [h1, h2] at ih <;> simp only [cT, cF, bS, Bool.true_or, Bool.false_or, tA', Bool.false_and] at ih ⊢ <;> exact ih
theorem que {ks : List Int} (hk : ks.length ≤ 10) {X : Declaration → Prop} {E : List (List Declaration)} (hE : RegOk ks X E) {k : Nat} {l : List Declaration} (hl : E[k]? = some l) : ∃ (x : Evidence) (b : Bool), z3c ⟨E⟩ (k : Int) = some (x, b) ∧ (b = true ↔ Twice l) := by
 have hkl := (List.getElem?_eq_some_iff.1 hl).1;have hel := hE.len;obtain ⟨h, _⟩ := hE.lst k l hl;have hlen := h.len;have l1 : ∀ (r j : Nat), 1 ≤ j → j + r = max 1 l.length → (∀ i x y, i + 1 < j → l[i]? = some x → l[i + 1]? = some y → x.Seq ≠ y.Seq) → ∃ (x : Evidence) (b : Bool), z17 l (j : Int) E 0 0 0 [] [] 0 0 0 0 [] [] 0 = some (x, b) ∧ (b = true ↔ Twice l) := by
  intro r;induction r with
  | zero =>
   intro j h1 hj hno;refine ⟨_, false, qt0 _ _ _ _ _ _ _ _ _ _ _ _ _ _ _ _ (by rw [q00 (by omega), cF]), ⟨fun e => (by cases e), ?_⟩⟩;rintro ⟨x, y, hx, hy, hxy, hs⟩;exfalso;obtain ⟨a, ha, hae⟩ := List.getElem_of_mem hx;obtain ⟨b, hb, hbe⟩ := List.getElem_of_mem hy;have hab : a < b := by
    rcases Nat.lt_trichotomy a b with e | e | e
    ·exact e
    ·subst e; rw [hae] at hbe; subst hbe; exact absurd hxy (q1d _)
    ·have := List.pairwise_iff_getElem.1 h.top.asc b a hb ha e;rw [hae, hbe] at this; exact absurd hxy (q3y this)
   have g1 : l[b - 1]? = some l[b - 1] := List.getElem?_eq_getElem (by omega);have g2 : l[b - 1 + 1]? = some y := by rw [show b - 1 + 1 = b by omega, List.getElem?_eq_getElem hb, hbe]
   refine hno (b - 1) _ _ (by omega) g1 g2 ?_;have s1 := q5j (q3x h g1 g2);by_cases e : a = b - 1
   ·subst e; rw [hae]; exact hs
   ·have := List.pairwise_iff_getElem.1 h.top.asc a (b - 1) ha (by omega) (by omega);rw [hae] at this;have s2 := q5j this;omega
  | succ r ih =>
   intro j h1 hj hno;have hlt : j < l.length := by omega
   have g1 : l[j - 1]? = some l[j - 1] := List.getElem?_eq_getElem (by omega);have g2 : l[j]? = some l[j] := List.getElem?_eq_getElem hlt;have hsub : subI .i64 (j : Int) 1 = ((j - 1 : Nat) : Int) := by rw [q34 (by omega) (by omega)]; omega
   have g2' : l[j - 1 + 1]? = some l[j] := by rw [show j - 1 + 1 = j by omega]; exact g2
   by_cases e : l[j - 1].Seq = l[j].Seq
   ·refine ⟨⟨⟨l[j - 1].Node, l[j - 1].Seq, ⟨l[j - 1].Trust.Threshold, l[j - 1].Trust.Nodes, l[j - 1].Trust.Inner⟩, l[j - 1].Tag⟩, ⟨l[j].Node, l[j].Seq, ⟨l[j].Trust.Threshold, l[j].Trust.Nodes, l[j].Trust.Inner⟩, l[j].Tag⟩⟩, true, ?_, ⟨fun _ => ⟨_, _, List.mem_of_getElem? g1, List.mem_of_getElem? g2, q3x h g1 g2', e⟩, fun _ => rfl⟩⟩;apply qt0;rw [q01 (by omega), cT, hsub, q06 (y := l[j - 1]) (by omega) (by rw [tN]; exact g1), q06 (y := l[j]) (by omega) (by rw [tN]; exact g2), e, q6u, cT, q06 (y := l[j - 1]) (by omega) (by rw [tN]; exact g1), q06 (y := l[j]) (by omega) (by rw [tN]; exact g2)];try simp only [e]
   ·obtain ⟨x, b, f1, f2⟩ := ih (j + 1) (by omega) (by omega) (fun i x y hi hx hy => by
     by_cases ei : i + 1 = j
     ·have hxx : l[j - 1]? = some x := by rw [show j - 1 = i by omega]; exact hx
      have hyy : l[j]? = some y := by rw [← ei]; exact hy
      rw [g1] at hxx;rw [g2] at hyy;rw [← Option.some.inj hxx, ← Option.some.inj hyy];exact e
     ·exact hno i x y (by omega) hx hy)
    refine ⟨x, b, ?_, f2⟩;apply qt0;rw [q01 (by omega), cT, hsub, q06 (y := l[j - 1]) (by omega) (by rw [tN]; exact g1), q06 (y := l[j]) (by omega) (by rw [tN]; exact g2), show eqB l[j - 1].Seq l[j].Seq = false by simp [eqB, e], cF, q03 (by omega)];exact f1
 obtain ⟨x, b, f1, f2⟩ := l1 (max 1 l.length - 1) 1 (Nat.le_refl _) (by omega) (fun i x y hi => by omega);refine ⟨x, b, ?_, f2⟩;apply y0d;rw [qgl hk hE, bS, q0i, cF, q00 (by omega), cF, qs8 (by show ¬ ((E.length : Nat) : Int) ≤ (k : Int); omega), cF, q06 (y := l) (by omega) (by rw [tN]; exact hl)];exact f1
theorem qsd {s i : Nat} (hs : s < 1024) (hi : i < 10) : eqB (andI .i64 (s : Int) (shlI .i64 1 (i : Int))) 0 = !s.testBit i := by
 have hin : inR (i : Int) = true := by simp only [inR, aT, dT']; omega
 have hb : bit (i : Int) = 2 ^ i := by simp [bit]
 have hlt := qhh hin;rw [qfu hin, qit (by omega) (by omega), hb];cases h : s.testBit i with
 | true =>
  have h1 : (s &&& 2 ^ i).testBit i = true := by rw [Nat.testBit_and, h, Nat.testBit_two_pow_self]; rfl
  have h2 : s &&& 2 ^ i ≠ 0 := fun e => by rw [e] at h1; simp at h1
  rw [qf9 (by omega)]; rfl
 | false =>
  have h1 : s &&& 2 ^ i = 0 := by
   apply Nat.eq_of_testBit_eq;intro j;rw [Nat.testBit_and, Nat.testBit_two_pow, Nat.zero_testBit];by_cases e : i = j
   ·subst e; rw [h]; rfl
   ·simp [e]
  rw [h1]; rfl
def Seen (l : List Declaration) (m : Member) : Prop := (m.Declared = true ↔ l ≠ [] ∧ ¬ Twice l) ∧ (m.Declared = true → ∀ d, l[l.length - 1]? = some d → m.Trust = d.Trust)
theorem qyy {ks : List Int} (hk : ks.length ≤ 10) {X : Declaration → Prop} {E : List (List Declaration)} (hE : RegOk ks X E) (hb : ∀ l ∈ E, ∀ d ∈ l, below ((ks.length : Nat) : Int) d.Trust = true) : ∃ vs, z3i ⟨E⟩ = some ⟨vs⟩ ∧ vs.length = E.length ∧ ∀ (k : Nat) l, E[k]? = some l → ∃ m, vs[k]? = some m ∧ Seen l m := by
 obtain ⟨s, s1, s2, s3⟩ := qhm hk hE;have hel := hE.len;have l1 : ∀ (suf pre : List (List Declaration)) (acc : List Member) (a13 : List Member), E = pre ++ suf → acc.length = pre.length → (∀ (k : Nat) l, pre[k]? = some l → ∃ m, acc[k]? = some m ∧ Seen l m) →
   ∃ vs, z0m (s : Int) E ((E.length : Nat) : Int) ((pre.length : Nat) : Int) E a13 acc = some ⟨vs⟩ ∧ vs.length = E.length ∧ ∀ (k : Nat) l, E[k]? = some l → ∃ m, vs[k]? = some m ∧ Seen l m := by
  intro suf;induction suf with
  | nil =>
   intro pre acc a13 e ha hm;rw [List.append_nil] at e;subst e;refine ⟨acc, ?_, ha, hm⟩;apply qnh;rw [q00 (Int.le_refl _), cF]
  | cons l suf ih =>
   intro pre acc a13 e ha hm;have hdr : E.drop pre.length = l :: suf := by rw [e]; simp
   have hlt := q0l hdr;have hg : E[pre.length]? = some l := by rw [e]; simp
   obtain ⟨hlst, _⟩ := hE.lst pre.length l hg;have hll := hlst.len;have hcap : ∀ (x : Member) (o : Option Config), capOk (List.length acc + List.length ([x] : List Member)) o = o := fun x o => q0k (by simp [q0d]; omega) o
   have go : ∀ m, Seen l m → ∃ vs, z0m (s : Int) E ((E.length : Nat) : Int) ((pre.length + 1 : Nat) : Int) E a13 (acc ++ [m]) = some ⟨vs⟩ ∧ vs.length = E.length ∧ ∀ (k : Nat) l, E[k]? = some l → ∃ m, vs[k]? = some m ∧ Seen l m := fun m hs => by
    have := ih (pre ++ [l]) (acc ++ [m]) a13 (by rw [e]; simp) (by simp [ha]) (fun k x hx => by
     by_cases hkp : k < pre.length
     ·rw [List.getElem?_append_left hkp] at hx;obtain ⟨m', g1, g2⟩ := hm k x hx;exact ⟨m', by rw [List.getElem?_append_left (by omega)]; exact g1, g2⟩
     ·have h1 := (List.getElem?_eq_some_iff.1 hx).1;simp at h1;have : k = pre.length := by omega
      subst this;simp at hx; subst hx;exact ⟨m, by rw [← ha]; simp, hs⟩)
    simpa using this
   by_cases h0 : l = []
   ·subst h0;obtain ⟨vs, r1, r2⟩ := go ⟨false, ⟨0, [], []⟩⟩ ⟨by simp, fun h => by cases h⟩;refine ⟨vs, ?_, r2⟩;apply qnh;rw [q09 hdr, cT, q08 hdr, q00 (by simp), cF, hcap, q03 (by omega)];exact r1
   ·have hl0 : 0 < l.length := List.length_pos_iff.2 h0;have hsub : subI .i64 ((l.length : Nat) : Int) 1 = ((l.length - 1 : Nat) : Int) := by rw [q34 (by omega) (by omega)]; omega
    have hd : l[l.length - 1]? = some l[l.length - 1] := List.getElem?_eq_getElem (by omega);have hdm : l[l.length - 1] ∈ l := List.getElem_mem (by omega);have hpl := (hlst.right _ hdm).1.plain;have htw : s.testBit pre.length = true ↔ Twice l := by
     rw [s3];exact ⟨fun ⟨x, h1, h2⟩ => by rw [hg] at h1; cases h1; exact h2, fun h => ⟨l, hg, h⟩⟩
    by_cases ht : Twice l
    ·obtain ⟨vs, r1, r2⟩ := go ⟨false, ⟨0, [], []⟩⟩ ⟨by simp [ht], fun h => by cases h⟩;refine ⟨vs, ?_, r2⟩;apply qnh;rw [q09 hdr, cT, q08 hdr, q01 (by omega), cT, q0j (by omega), qsd s2 (by omega), htw.2 ht, nT, cF, hcap, q03 (by omega)];exact r1
    ·have hu := qbv (m := ks.length) _ (hb l (by rw [e]; simp) _ hdm);have hf : s.testBit pre.length = false := Bool.eq_false_iff.2 fun h => ht (htw.1 h)
     have hsh : shlI .i64 1 ((E.length : Nat) : Int) = ((2 ^ ks.length : Nat) : Int) := by
      rw [hel, shl1 (by omega) (by omega), tN]
     obtain ⟨vs, r1, r2⟩ := go ⟨true, l[l.length - 1].Trust⟩ ⟨by simp [ht, h0], fun _ d hd' => by rw [hd] at hd'; cases hd'; rfl⟩;refine ⟨vs, ?_, r2⟩;apply qnh;rw [q09 hdr, cT, q08 hdr, q01 (by omega), cT, q0j (by omega), qsd s2 (by omega), hf, Bool.not_false, cT, hsub, q06 (y := l[l.length - 1]) (by omega) (by rw [tN]; exact hd), q0j (by omega), qp6 _ hpl.fine.small, bS, hsh, q01 (by omega), cT,
      q06 (y := l[l.length - 1]) (by omega) (by rw [tN]; exact hd), qbx _ (by have := hpl.size; omega), bS, hcap, q03 (by omega)]
     simp only [Trust.eta];exact r1
 obtain ⟨vs, r1, r2⟩ := l1 E [] [] [] rfl rfl (fun k l h => by simp at h);refine ⟨vs, ?_, r2⟩;apply y0s;rw [qca hk hE, bS, q0i, cF, s1, bS];exact r1
theorem lh_l3 {ks : List Int} (hk : ks.length ≤ 10) {X : Declaration → Prop} {E : List (List Declaration)} (hE : RegOk ks X E) {vs ms hs : List Member} {tl : List Int} {j : Int} (hv : ∀ (k : Nat) l, E[k]? = some l → ∃ m, vs[k]? = some m ∧ Seen l m) :
  ∀ (r i : Nat), i + r = E.length → z0h E ((E.length : Nat) : Int) (i : Int) tl j ms hs E vs = some true
 | 0, i, hi => by
  apply qwe;rw [q00 (by omega), cF, qya, bS]
 | r + 1, i, hi => by
  have hel := hE.len;have hlt : i < E.length := by omega
  have hg : E[i]? = some E[i] := List.getElem?_eq_getElem hlt;obtain ⟨m, hm, sn1, sn2⟩ := hv i _ hg;obtain ⟨x, b, e1, e2⟩ := que hk hE hg;obtain ⟨hlst, _⟩ := hE.lst i _ hg;have hll := hlst.len;have ih := lh_l3 hk hE (ms := ms) (hs := hs) (tl := tl) (j := j) hv r (i + 1) (by omega);apply qwe;rw [q01 (by omega), cT, q06 (y := E[i]) (by omega) (by rw [tN]; exact hg), e1, bS, q03 (by omega)];have hgm : ∀ {β : Type} (f : Member → Option β), nth vs (i : Int) f = f m := fun f => q06 (xs := vs) (n := (i : Int)) (y := m) (by omega) (by rw [tN]; exact hm) f
  by_cases h0 : E[i] = []
  ·have hdf : m.Declared = false := Bool.eq_false_iff.2 fun h => (sn1.1 h).1 h0
   rw [h0, q00 (by simp), cF, hgm, hdf];simp only [beq_self_eq_true, nT, cF];rw [hgm, hdf, cF];exact ih
  ·have hl0 : 0 < E[i].length := List.length_pos_iff.2 h0;have hde : m.Declared = !b := by
    rw [Bool.eq_iff_iff, sn1];constructor
    ·rintro ⟨_, h⟩;cases b with
     | true => exact absurd (e2.1 rfl) h
     | false => rfl
    ·intro h;cases b with
     | true => cases h
     | false => exact ⟨h0, fun ht => by have := e2.2 ht; cases this⟩
   rw [q01 (by omega), cT, hgm];simp only [hde, beq_self_eq_true, nT, cF];rw [hgm, hde];cases b with
   | true => rw [nT, cF]; exact ih
   | false =>
    have hsub : subI .i64 ((E[i].length : Nat) : Int) 1 = ((E[i].length - 1 : Nat) : Int) := by rw [q34 (by omega) (by omega)]; omega
    have hd : E[i][E[i].length - 1]? = some E[i][E[i].length - 1] := List.getElem?_eq_getElem (by omega);have hpl := (hlst.right _ (List.getElem_mem (show E[i].length - 1 < E[i].length by omega))).1.plain;have htr := sn2 hde _ hd;obtain ⟨q, q1, q2⟩ := qyt m.Trust (by rw [htr]; exact hpl.fine.small) E[i][E[i].length - 1].Trust;rw [Bool.not_false, cT, hsub, q06 (by omega) (by rw [tN]; exact hd), hgm, q1, bS, q2.2 htr, nT, cF];exact ih
theorem y0a {n : Nat} (h1 : 1 ≤ n) (hn : n ≤ 10) {ms hs : List Member} {tl : List Int} {j : Int} (h : q0o tl j) {L : List (List Trust)} (hL : L.length = n) : z0n (n : Int) L ((L.length : Nat) : Int) (n : Int) tl j ms hs = some true := by
 obtain ⟨ks, j1, g1, g2, hk, a1⟩ := qxk hn h;obtain ⟨P, E, j2, g3, rP, hE, a2⟩ := qjk hk (by omega) (m := 8) (by omega) a1;have hel := hE.len;obtain ⟨vs, v1, v2, v3⟩ := qyy hk.1 hE (fun l hl d hd => by
  obtain ⟨k, hkl⟩ := List.getElem?_of_mem hl;exact (rP d ((hE.lst k l hkl).2.sub d hd).1).2)
 apply qvs;rw [q00 (by omega), cF, g1, bS]
 dsimp only
 rw [show (8 : Int) = ((8 : Nat) : Int) from rfl, g3, bS]
 dsimp only
 rw [v1, bS, show ((vs.length : Nat) : Int) = (n : Int) by omega, q0i, cF];exact lh_l3 hk.1 hE v3 E.length 0 (by omega)
theorem lh_l1 {n : Nat} (h1 : 1 ≤ n) (hn : n ≤ 10) {L : List (List Trust)} (hL : L.length = n) (hd : DrL n L) {ms hs : List Member} (hms : JoinOf false L ms) (hhs : JoinOf true L hs) {tl : List Int} : ∀ (r k : Nat) (j : Int), k + r = n → q0o tl j →
  z0n (n : Int) L ((L.length : Nat) : Int) (k : Int) tl j ms hs = some true
 | 0, k, j, hk, ht => by
  have : k = n := by omega
  subst this;exact y0a h1 hn ht hL
 | r + 1, k, j, hk, ht => by
  have hlt : k < L.length := by omega
  have hx : L[k]? = some L[k] := List.getElem?_eq_getElem hlt;obtain ⟨x1, x2, x3⟩ := hd _ (List.getElem_mem hlt);obtain ⟨d, d1, d2, d3, d4⟩ := hms.2 k _ hx;obtain ⟨e, e1, e2, e3, e4⟩ := hhs.2 k _ hx;have hvd := (qc3 (all := false) d1 d2 fun x h => x3 x ((d3 x).1 h)).2.1;have hve := (qc3 (all := true) e1 e2 fun x h => x3 x ((e3 x).1 h)).2.1;have l2 : ∀ (q i : Nat) (j : Int), i + q = 12 → q0o tl j → z0o (n : Int) (k : Int) L[k] (i : Int) L ((L.length : Nat) : Int) (k : Int) tl j ms hs = some true := by
   intro q;induction q with
   | zero =>
    intro i j hi hj;apply qvv;rw [q00 (by omega), cF, q03 (by omega)];exact lh_l1 h1 hn hL hd hms hhs r (k + 1) j (by omega) hj
   | succ q ih =>
    intro i j hi hj;obtain ⟨s, j', s1, s2, s3⟩ := N_pow (n := (n : Int)) (by omega) (by omega) hj;have K := ih (i + 1) j' (by omega) s3;apply qvv;rw [q01 (by omega), cT, q0j (by omega), s1, bS];exact lh_l4 hx (by omega) (fun y hy => (x3 y hy).1) s2 d1 e1 d3 e3 d4 e4 hvd hve (by rw [q03 (by omega)]; exact K) L[k] [] rfl
  apply qvs;rw [q01 (by omega), cT, q06 (y := L[k]) (by omega) (by rw [tN]; exact hx)];exact l2 12 0 j rfl ht
theorem qqp (t : List Int) : law08_RegistryLowHigh t = some true := by
 obtain ⟨l, g0, a0⟩ := y17 t;obtain ⟨v, i1, g1, q1, q2, a1⟩ := q6w (a := 1) (b := 5) (by omega) (by omega) (by omega) a0;obtain ⟨n, rfl⟩ : ∃ m : Nat, v = (m : Int) := ⟨v.toNat, by omega⟩;obtain ⟨L, i2, g2, hL, hd, a2⟩ := qs1 (n := n) (by omega) (by omega) a1;obtain ⟨ms, m1, m2⟩ := y04 (by omega) hL hd;obtain ⟨hs, n1, n2⟩ := qy1 (by omega) hL hd;apply law08_RegistryLowHigh_le;rw [g0, bS]
 dsimp only
 rw [g1, bS]
 dsimp only
 rw [g2, bS]
 dsimp only
 rw [m1, bS, n1, bS]
 dsimp only
 rw [q0i, cF, cF, m2.1, n2.1, hL, q0i, cF, cF];have := lh_l1 (by omega) (by omega) hL hd m2 n2 n 0 i2 (by omega) a2;rw [hL] at this;exact this
end Go.Proofs.YtkeiaodiibageaaGreatDoor
namespace Go.Proofs.YtkeiaodiibageaaGreatDoor
open Go Go.Ab Go.ChangeShapes Go.WideShapes Go.ChangeAt Go.WideMaps Go.WideElems Go.RowKit
theorem Tryz.own : ownKnob Tryz.prog.godebug = none := by kernel_rfl
theorem Tryz.laidOut : laidOutB Tryz.prog = true := by kernel_rfl
theorem qqo {f : Nat} (hlaw : ∀ zs : List Int, (∀ z ∈ zs, (Lit.int .i64 z).wf = true) → ∃ n h', call env n f [.d (ints .i64 zs)] [] = some (.d (.v (.bool true)), h'))
  {W : World} {v : Value} {zs : List Int} (hz : ∀ z ∈ zs, (Lit.int .i64 z).wf = true) (hv : Rep W qb8 (ints .i64 zs) v) :
  Calls Tryz.prog f #[v] W fun e w' => e = .returned (.bool true) ∧ Below W.heap.size W w' := by
 obtain ⟨n, h', hc⟩ := hlaw zs hz;exact top (E := env) (y0b n) (fun g cs hg => by cases hg) (ds := [ints .i64 zs]) hc rfl (fun i d hd => by
  cases i with
  | zero => simp at hd; subst hd; exact hv
  | succ i => simp at hd)
end Go.Proofs.YtkeiaodiibageaaGreatDoor
