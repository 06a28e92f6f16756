/- Bent trusts and configurations, small ones, what is no set. -/
import Derived.Test.YtbmelgbadedbbaaGreatP14Quor
namespace Go.Proofs.YtbmelgbadedbbaaGreat
open Go Go.Ab
mutual
def wf : Trust → Bool
 | ⟨thr, _, inner⟩ => decide (thr < 9223372036854775808) && wfs inner
def wfs : List Trust → Bool
 | [] => true
 | x :: r => wf x && wfs r
end
theorem wf_eq (t : Trust) : wf t = (decide (t.Threshold < 9223372036854775808) && wfs t.Inner) := by cases t; simp only [wf]
theorem qni {l : List Trust} (h : wfs l = true) : ∀ x ∈ l, wf x = true := by
 induction l with
 | nil => intro x hx; cases hx
 | cons y r ih =>
  simp only [wfs, Bool.and_eq_true] at h;intro x hx;rcases List.mem_cons.1 hx with rfl | hx
  ·exact h.1
  ·exact ih h.2 x hx
def Fits (t : Trust) : Prop := size t < 1073741824
theorem Fits.small {t : Trust} (h : Fits t) : Small t := by unfold Fits at h; unfold Small; omega
theorem Fits.mem {t x : Trust} (h : Fits t) (hx : x ∈ t.Inner) : Fits x := by
 unfold Fits at *; rw [q1a] at h; have := qjz hx; omega
theorem y2y : ∀ t : Trust, Fits t → good t = true → wf t = true := by
 apply Trust.ind;intro t ih ht hg;have hsz : size t < 1073741824 := ht;rw [q1a] at hsz;rw [q99] at hg;simp only [Bool.and_eq_true, decide_eq_true_eq] at hg;obtain ⟨g1, g2, g3, g4, g5⟩ := hg;rw [wf_eq];simp only [Bool.and_eq_true, decide_eq_true_eq];refine ⟨by omega, ?_⟩
 have hin : ∀ l : List Trust, (∀ x ∈ l, good x = true → wf x = true) → goods l = true → wfs l = true := by
  intro l;induction l with
  | nil => intro _ _; rfl
  | cons y r ihr =>
   intro h hgl;simp only [goods, Bool.and_eq_true] at hgl;simp only [wfs, h y (by simp) hgl.1, ihr (fun x hx => h x (by simp [hx])) hgl.2, Bool.and_self]
 exact hin t.Inner (fun x hx => ih x hx (ht.mem hx)) g5
theorem qcp {t : Trust} (h : valid t = true) : Fits t ∧ wf t = true := by
 simp only [valid, Bool.and_eq_true, decide_eq_true_eq] at h;have hf : Fits t := by unfold Fits; omega
 exact ⟨hf, y2y t hf h.2.2⟩
def TB (t : Trust) : Prop := size t < 1000000 ∧ wf t = true
def CB (c : Config) : Prop := c.Members.length < 1000000 ∧ ∀ m ∈ c.Members, TB m.Trust
theorem CB.small {c : Config} (h : CB c) : q0l c := ⟨by have := h.1; omega, fun m hm => by have := (h.2 m hm).1; unfold Small; omega⟩
theorem qkb {y y' : Trust} : ∀ (l : List Trust) (i : Nat), l[i]? = some y → sizes (l.set i y') + size y = sizes l + size y'
 | [], i, h => by simp at h
 | x :: r, 0, h => by simp at h; subst h; simp only [List.set_cons_zero, sizes]; omega
 | x :: r, i + 1, h => by
  have := qkb (y' := y') r i (by simpa using h)
  simp only [List.set_cons_succ, sizes]; omega
theorem qtr {y' : Trust} (hy : wf y' = true) : ∀ (l : List Trust) (i : Nat), wfs l = true → wfs (l.set i y') = true
 | [], i, _ => rfl
 | x :: r, 0, h => by simp only [wfs, Bool.and_eq_true] at h; simp only [List.set_cons_zero, wfs, hy, h.2, Bool.and_self]
 | x :: r, i + 1, h => by
  simp only [wfs, Bool.and_eq_true] at h;simp only [List.set_cons_succ, wfs, h.1, qtr hy r i h.2, Bool.and_self]
theorem qcl (a b : List Trust) : wfs (a ++ b) = (wfs a && wfs b) := by
 induction a with
 | nil => simp [wfs]
 | cons x r ih => simp [wfs, ih, Bool.and_assoc]
theorem wf_mk {thr : Int} {a : List Int} {b : List Trust} (h : thr < 9223372036854775808) (hb : wfs b = true) : wf ⟨thr, a, b⟩ = true := by rw [wf_eq]; simp [h, hb]
theorem qtm {l : List Int} (a8 : Int) (a10 : List Int) (a12 : List Trust) (a14 : Int) (a16 : List Int) (a18 : List Trust) (i : Int) : ∀ (n : Nat) (t : Trust), n < 1000000 → wf t = true →
  ∃ y, z3w (n : Int) l i a8 a10 a12 a14 a16 a18 t.Threshold t.Nodes t.Inner = some (y, l, i) ∧ size y ≤ size t + n ∧ wf y = true
 | 0, t, _, hw => ⟨t, by
   apply qyv;rw [q00 (by omega)]
   simp only [cond_false, Trust.eta], by omega, hw⟩
 | n + 1, t, hn, hw => by
  obtain ⟨y, h1, h2, h3⟩ := qtm a8 a10 a12 a14 a16 a18 i n ⟨1, [], [t]⟩ (by omega) (wf_mk (by omega) (by simp [wfs, hw]))
  refine ⟨y, ?_, ?_, h3⟩
  ·apply qyv;rw [q03 (by omega), q22 (by omega) (by omega), show (((n + 1 : Nat) : Int) - 1) = ((n : Nat) : Int) by omega]
   simp only [cond_true, Trust.eta];exact h1
  ·simp [size, sizes] at h2; omega
theorem y2s {l : List Int} (a8 : Int) (a10 : List Int) (a12 : List Trust) (a14 : Int) (a16 : List Int) (a18 : List Trust) (i : Int) (n : Nat) (t : Trust) (hn : n < 1000000) (hw : wf t = true) :
  ∃ y, z34 (n : Int) l i a8 a10 a12 a14 a16 a18 t.Threshold t.Nodes t.Inner = some (y, l, i) ∧ size y ≤ size t + n ∧ wf y = true := by
 cases n with
 | zero => exact ⟨t, by
   apply qzq;rw [q00 (by omega)]
   simp only [cond_false, Trust.eta], by omega, hw⟩
 | succ n =>
  obtain ⟨y, h1, h2, h3⟩ := qtm (l := l) a8 a10 a12 a14 a16 a18 i n ⟨1, [], [t]⟩ (by omega) (wf_mk (by omega) (by simp [wfs, hw]))
  refine ⟨y, ?_, ?_, h3⟩
  ·apply qzq;rw [q03 (by omega), q22 (by omega) (by omega), show (((n + 1 : Nat) : Int) - 1) = ((n : Nat) : Int) by omega]
   simp only [cond_true, Trust.eta];exact h1
  ·simp [size, sizes] at h2; omega
theorem qv4 {l : List Int} (i : Int) (thr : Int) (nodes : List Int) (inner : List Trust) (a16 : Int) (a18 : List Int) (a20 : List Trust) (ht : thr < 9223372036854775808) (hi : wfs inner = true) (hl : inner.length < 1000000) : ∀ (n : Nat) (acc : List Trust), n + acc.length < 1000000 → wfs acc = true →
  ∃ y, z2n acc (n : Int) l i thr nodes inner a16 a18 a20 = some (y, l, i) ∧ size y ≤ nodes.length + inner.length + sizes inner + acc.length + sizes acc + 2 * n ∧ wf y = true
 | 0, acc, hn, ha => ⟨⟨thr, nodes, acc ++ inner⟩, by
   apply y00;rw [q00 (by omega)]
   simp only [cond_false];rw [q06 (by simp [q0f]; omega)], by simp [size, q60]; omega, wf_mk ht (by rw [qcl, ha, hi]; rfl)⟩
 | n + 1, acc, hn, ha => by
  obtain ⟨y, h1, h2, h3⟩ := qv4 i thr nodes inner a16 a18 a20 ht hi hl n (acc ++ [⟨1, [remI .i64 ((n + 1 : Nat) : Int) 10], []⟩]) (by simp; omega) (by rw [qcl, ha]; rfl)
  refine ⟨y, ?_, ?_, h3⟩
  ·apply y00;rw [q03 (by omega), q22 (by omega) (by omega), show (((n + 1 : Nat) : Int) - 1) = ((n : Nat) : Int) by omega]
   simp only [cond_true];rw [q06 (by simp [q0f]; omega)]
   exact h1
  ·simp [q60, size, sizes] at h2; omega
theorem qpt {l : List Int} {x : Trust} (hs : size x < 1000000) (hw : wf x = true) {i : Int} (h : q0n l i) : ∃ y j, (
     Option.bind (z11 6 l i) fun x10 =>
     bif (eqB x10.1 0) then
      Option.bind (z1c ([0, (-1), (addI .i64 ((List.length x.Nodes : Nat) : Int) ((List.length x.Inner : Nat) : Int)), (addI .i64 (addI .i64 ((List.length x.Nodes : Nat) : Int) ((List.length x.Inner : Nat) : Int)) 1)] : List (Int)) x10.2.1 x10.2.2) fun x11 =>
      some ((Trust.mk x11.1 x.Nodes x.Inner), x11.2.1, x11.2.2)
     else
      bif (eqB x10.1 1) then
       capOk (List.length ([] : List (Int)) + List.length x.Nodes) <|
       Option.bind (z1c ([(-1), 0, 9, 10] : List (Int)) x10.2.1 x10.2.2) fun x12 =>
       capOk (List.length (([] : List (Int)) ++ x.Nodes) + List.length ([x12.1] : List (Int))) <|
       some ((Trust.mk x.Threshold ((([] : List (Int)) ++ x.Nodes) ++ ([x12.1] : List (Int))) x.Inner), x12.2.1, x12.2.2)
      else
       bif (eqB x10.1 2) then
        some ((Trust.mk x.Threshold ([] : List (Int)) x.Inner), x10.2.1, x10.2.2)
       else
        bif (eqB x10.1 3) then
         capOk (List.length ([] : List (Trust)) + List.length x.Inner) <|
         capOk (List.length (([] : List (Trust)) ++ x.Inner) + List.length ([(Trust.mk 0 ([] : List (Int)) ([] : List (Trust)))] : List (Trust))) <|
         some ((Trust.mk x.Threshold x.Nodes ((([] : List (Trust)) ++ x.Inner) ++ ([(Trust.mk 0 ([] : List (Int)) ([] : List (Trust)))] : List (Trust)))), x10.2.1, x10.2.2)
        else
         bif (eqB x10.1 4) then
          Option.bind (z19 1 4 x10.2.1 x10.2.2) fun x13 =>
          z34 x13.1 x13.2.1 x13.2.2 x.Threshold x.Nodes x.Inner 0 ([] : List (Int)) ([] : List (Trust)) x.Threshold x.Nodes x.Inner
         else
          Option.bind (z1c ([20, 60, 101] : List (Int)) x10.2.1 x10.2.2) fun x14 =>
          z2n ([] : List (Trust)) x14.1 x14.2.1 x14.2.2 x.Threshold x.Nodes x.Inner 0 ([] : List (Int)) ([] : List (Trust))
  ) = some (y, l, j) ∧ size y ≤ size x + 1000 ∧ wf y = true ∧ q0n l j := by
 have hsz := hs;rw [q1a] at hsz;have hw' := hw;rw [wf_eq, Bool.and_eq_true, decide_eq_true_eq] at hw';obtain ⟨v, j, a1, a2, a3, a4⟩ := N_ok (n := 6) (by decide) (by decide) h
 rw [a1];simp only [Option.bind_some];by_cases h0 : v = 0
 ·subst h0;obtain ⟨p, j2, b1, b2, b3⟩ := qan (ps := [0, (-1), (addI .i64 ((List.length x.Nodes : Nat) : Int) ((List.length x.Inner : Nat) : Int)), (addI .i64 (addI .i64 ((List.length x.Nodes : Nat) : Int) ((List.length x.Inner : Nat) : Int)) 1)]) (by simp) (by simp) a4
  rw [b1];refine ⟨⟨p, x.Nodes, x.Inner⟩, j2, rfl, by rw [q1a x]; simp only [size]; omega, wf_mk ?_ hw'.2, b3⟩
  rw [q1n (by omega) (by omega), q1n (by omega) (by omega)] at b2
  simp at b2;omega
 rw [q0t h0];simp only [cond_false];by_cases h1 : v = 1
 ·subst h1;obtain ⟨p, j2, b1, b2, b3⟩ := qan (ps := [(-1), 0, 9, 10]) (by simp) (by simp) a4
  rw [b1, q06 (by simp [q0f]; omega)]
  simp only [Option.bind_some, q0p, cond_true];rw [q06 (by simp [q0f]; omega)]
  exact ⟨_, j2, rfl, by rw [q1a x]; simp [size]; omega, wf_mk hw'.1 hw'.2, b3⟩
 rw [q0t h1];simp only [cond_false];by_cases h2 : v = 2
 ·subst h2;exact ⟨_, j, rfl, by rw [q1a x]; simp [size]; omega, wf_mk hw'.1 hw'.2, a4⟩
 rw [q0t h2];simp only [cond_false];by_cases h3 : v = 3
 ·subst h3;simp only [q0p, cond_true];rw [q06 (by simp [q0f]; omega), q06 (by simp [q0f]; omega)]
  exact ⟨_, j, rfl, by rw [q1a x]; simp [size, q60, sizes]; omega, wf_mk hw'.1 (by simp [qcl, hw'.2, wfs, wf]), a4⟩
 rw [q0t h3];simp only [cond_false];by_cases h4 : v = 4
 ·subst h4;obtain ⟨p, j2, b1, b2, b3, b4⟩ := q64 (a := 1) (b := 4) (by decide) (by decide) (by decide) a4
  obtain ⟨n, rfl⟩ := Int.eq_ofNat_of_zero_le (show 0 ≤ p by omega)
  obtain ⟨y, c1, c2, c3⟩ := y2s (l := l) x.Threshold x.Nodes x.Inner 0 [] [] j2 n x (by omega) hw
  rw [b1];simp only [Option.bind_some, q0p, cond_true];exact ⟨y, j2, c1, by omega, c3, b4⟩
 rw [q0t h4];simp only [cond_false];obtain ⟨p, j2, b1, b2, b3⟩ := qan (ps := [20, 60, 101]) (by simp) (by simp) a4
 have hp : 0 ≤ p ∧ p ≤ 101 := by simp at b2; omega
 obtain ⟨n, rfl⟩ := Int.eq_ofNat_of_zero_le hp.1;obtain ⟨y, c1, c2, c3⟩ := qv4 (l := l) j2 x.Threshold x.Nodes x.Inner 0 [] [] hw'.1 hw'.2 (by omega) n [] (by simp; omega) rfl
 rw [b1];exact ⟨y, j2, c1, by rw [q1a x]; simp [sizes] at c2; omega, c3, b3⟩
theorem y2h {l : List Int} : ∀ x : Trust, size x < 1000000 → wf x = true → ∀ i, q0n l i → ∃ y j, z3q x l i = some (y, l, j) ∧ size y ≤ size x + 1000 ∧ wf y = true ∧ q0n l j := by
 apply Trust.ind;intro x ih hs hw i h;have hsz := hs;rw [q1a] at hsz;have hw' := hw;rw [wf_eq, Bool.and_eq_true, decide_eq_true_eq] at hw';by_cases hne : 0 < x.Inner.length
 ·obtain ⟨v, j, a1, a2, a3, a4⟩ := N_ok (n := 2) (by decide) (by decide) h
  by_cases h1 : v = 1
  ·subst h1;obtain ⟨p, j2, b1, b2, b3, b4⟩ := N_ok (n := ((x.Inner.length : Nat) : Int)) (by omega) (by omega) a4
   have hp : p.toNat < x.Inner.length := by omega
   have hg : x.Inner[p.toNat]? = some x.Inner[p.toNat] := List.getElem?_eq_getElem hp;have hm := List.getElem_mem hp;generalize x.Inner[p.toNat] = y2 at hg hm;obtain ⟨y, j3, c1, c2, c3, c4⟩ := ih y2 hm (by have := qjz hm; omega) (qni hw'.2 y2 hm) j2 b4
   refine ⟨⟨x.Threshold, x.Nodes, x.Inner.set p.toNat y⟩, j3, ?_, ?_, wf_mk hw'.1 (qtr c3 _ _ hw'.2), c4⟩
   ·apply qvk;rw [q03 (by omega), a1]
    simp only [Option.bind_some, q0p, cond_true, List.nil_append];rw [q06 (by simp [q0f]; omega), b1]
    simp only [Option.bind_some, q0v b2 hg, q39 hg];rw [c1];simp only [Option.bind_some, Trust.eta]
   ·have := qkb (y' := y) x.Inner p.toNat hg;rw [q1a x]; simp only [size, List.length_set]; omega
  ·obtain ⟨y, j2, b1, b2, b3, b4⟩ := qpt hs hw a4;refine ⟨y, j2, ?_, b2, b3, b4⟩;apply qvk;rw [q03 (by omega), a1]
   simp only [Option.bind_some, q0t h1, cond_true, cond_false];exact b1
 ·obtain ⟨y, j2, b1, b2, b3, b4⟩ := qpt hs hw h;refine ⟨y, j2, ?_, b2, b3, b4⟩;apply qvk;rw [q00 (by omega)]
  simp only [cond_false];exact b1
theorem Member.eta (m : Member) : Member.mk m.Declared m.Trust = m := by cases m; rfl
def nobody : Member := ⟨false, ⟨0, [], []⟩⟩
theorem qff : TB nobody.Trust := ⟨by simp [nobody, size, sizes], by simp [nobody, wf, wfs]⟩
theorem qrd {l : List Int} (a6 a8 : List Member) (i : Int) : ∀ (n : Nat) (acc : List Member), 11 - acc.length ≤ n → acc.length < 900000 → (∀ m ∈ acc, TB m.Trust) →
  ∃ q, z3e l i a6 a8 acc = some (⟨q⟩, l, i) ∧ q.length < 1000000 ∧ ∀ m ∈ q, TB m.Trust
 | n, acc, hn, hl, ha => by
  by_cases h : acc.length ≤ 10
  ·obtain ⟨n, rfl⟩ : ∃ k, n = k + 1 := ⟨n - 1, by omega⟩
   obtain ⟨q, h1, h2, h3⟩ := qrd (l := l) a6 a8 i n (acc ++ [nobody]) (by simp; omega) (by simp; omega) (fun m hm => by
    rcases List.mem_append.1 hm with hm | hm
    ·exact ha m hm
    ·rw [List.mem_singleton] at hm; subst hm; exact qff)
   refine ⟨q, ?_, h2, h3⟩;apply qzl;rw [q0e (by omega)]
   simp only [cond_true];rw [q06 (by simp [q0f]; omega)]
   exact h1
  ·refine ⟨acc, ?_, by omega, ha⟩
   apply qzl;rw [q09 (by omega)]
   rfl
theorem qxo {l : List Int} {c : Config} (hl : c.Members.length < 900000) (hc : ∀ m ∈ c.Members, size m.Trust < 900000 ∧ wf m.Trust = true) {i : Int} (h : q0n l i) :
  ∃ d j, z4r c l i = some (d, l, j) ∧ CB d ∧ q0n l j := by
 have hT : ∀ m ∈ c.Members, TB m.Trust := fun m hm => ⟨by have := (hc m hm).1; omega, (hc m hm).2⟩
 have setTB : ∀ (k : Nat) (m : Member), TB m.Trust → CB ⟨c.Members.set k m⟩ := fun k m hm => ⟨by simp; omega, fun x hx => by
  rcases List.mem_or_eq_of_mem_set hx with hx | rfl
  ·exact hT x hx
  ·exact hm⟩
 by_cases hne : c.Members.length = 0
 ·obtain ⟨p, j, b1, b2, b3⟩ := qan (ps := [1, 10, 11]) (by simp) (by simp) h
  have hp : 0 ≤ p ∧ p ≤ 11 := by simp at b2; omega
  refine ⟨⟨List.replicate p.toNat nobody⟩, j, ?_, ⟨by simp; omega, fun m hm => by rw [(List.mem_replicate.1 hm).2]; exact qff⟩, b3⟩
  apply y0e;simp only [List.nil_append, hne];rw [q06 (by simp [q0f])]
  simp only [Int.natCast_zero, q0p, cond_true];rw [b1];simp only [Option.bind_some];rw [q0q ⟨trivial, hp.1, by omega⟩]
  rfl
 ·obtain ⟨p, j, b1, b2, b3, b4⟩ := N_ok (n := ((c.Members.length : Nat) : Int)) (by omega) (by omega) h
  have hp : p.toNat < c.Members.length := by omega
  have hg : c.Members[p.toNat]? = some c.Members[p.toNat] := List.getElem?_eq_getElem hp;have hm := List.getElem_mem hp;generalize c.Members[p.toNat] = y at hg hm;obtain ⟨v, j2, d1, d2, d3, d4⟩ := N_ok (n := 5) (by decide) (by decide) b4
  have pre : ∀ r, (
   bif (eqB v 0) then
    nthN c.Members (Int.toNat p) fun y3 =>
    nthN c.Members (Int.toNat p) fun y4 =>
    some ((Config.mk (List.set c.Members (Int.toNat p) (Member.mk (!y3.Declared) (Trust.mk y4.Trust.Threshold y4.Trust.Nodes y4.Trust.Inner)))), l, j2)
   else
    bif (eqB v 1) then
     nthN c.Members (Int.toNat p) fun y5 =>
     Option.bind (z3q y5.Trust l j2) fun x6 =>
     nthN c.Members (Int.toNat p) fun y7 =>
     some ((Config.mk (List.set c.Members (Int.toNat p) (Member.mk y7.Declared (Trust.mk x6.1.Threshold x6.1.Nodes x6.1.Inner)))), x6.2.1, x6.2.2)
    else
     bif (eqB v 2) then
      nthN c.Members (Int.toNat p) fun y8 =>
      some ((Config.mk (List.set c.Members (Int.toNat p) (Member.mk y8.Declared (Trust.mk 1 ([((List.length c.Members : Nat) : Int)] : List (Int)) ([] : List (Trust)))))), l, j2)
     else
      bif (eqB v 3) then
       hiK (List.length c.Members) (subI .i64 ((List.length c.Members : Nat) : Int) 1) fun b9 =>
       some ((Config.mk (List.drop 0 (List.take b9 c.Members))), l, j2)
      else
       z3d false l j2 c.Members ([] : List (Member)) c.Members) = some r → z4r c l i = some r := by
   intro r hr;apply y0e;simp only [List.nil_append];rw [q06 (by simp [q0f]; omega), q0t (by omega)]
   simp only [cond_false];rw [b1];simp only [Option.bind_some, q0v b2 hg];rw [d1];exact hr
  by_cases h0 : v = 0
  ·subst h0;refine ⟨_, j2, pre _ (by simp only [q0p, cond_true, q39 hg, Trust.eta]), setTB p.toNat ⟨!y.Declared, y.Trust⟩ (hT y hm), d4⟩
  by_cases h1 : v = 1
  ·subst h1;obtain ⟨z, j3, e1, e2, e3, e4⟩ := y2h (l := l) y.Trust (by have := (hc y hm).1; omega) (hc y hm).2 j2 d4
   refine ⟨_, j3, pre _ (by simp only [q0t h0, q0p, cond_true, cond_false, q39 hg, e1, Option.bind_some, Trust.eta]), setTB p.toNat ⟨y.Declared, z⟩ ⟨by have := (hc y hm).1; show size z < _; omega, e3⟩, e4⟩
  by_cases h2 : v = 2
  ·subst h2;refine ⟨_, j2, pre _ (by simp only [q0t h0, q0t h1, q0p, cond_true, cond_false, q39 hg]), setTB p.toNat ⟨y.Declared, ⟨1, [((List.length c.Members : Nat) : Int)], []⟩⟩ ⟨by simp [size, sizes], by simp [wf, wfs]⟩, d4⟩
  by_cases h3 : v = 3
  ·subst h3;refine ⟨_, j2, pre _ (by
    simp only [q0t h0, q0t h1, q0t h2, q0p, cond_true, cond_false];rw [q22 (by omega) (by omega), q7l (by omega) (by omega)]), ⟨by simp; omega, fun m hm => hT m (List.mem_of_mem_take (List.mem_of_mem_drop hm))⟩, d4⟩
  have hl1 : ∃ q, z3d false l j2 c.Members [] c.Members = some (⟨q⟩, l, j2) ∧ q.length < 1000000 ∧ ∀ m ∈ q, TB m.Trust := by
   by_cases h10 : c.Members.length ≤ 10
   ·obtain ⟨q, h1, h2, h3⟩ := qrd (l := l) c.Members [] j2 11 (c.Members ++ [nobody]) (by omega) (by simp; omega) (fun m hm => by
     rcases List.mem_append.1 hm with hm | hm
     ·exact hT m hm
     ·rw [List.mem_singleton] at hm; subst hm; exact qff)
    refine ⟨q, ?_, h2, h3⟩;apply qzv;rw [q0e (by omega)]
    simp only [cond_true];rw [q06 (by simp [q0f]; omega)]
    exact h1
   ·refine ⟨c.Members, ?_, by omega, hT⟩
    apply qzv;rw [q09 (by omega)]
    rfl
  obtain ⟨q, e1, e2, e3⟩ := hl1;exact ⟨⟨q⟩, j2, pre _ (by simp only [q0t h0, q0t h1, q0t h2, q0t h3, cond_false]; exact e1), ⟨e2, e3⟩, d4⟩
mutual
def raw : Trust → Bool
 | ⟨thr, nodes, inner⟩ => decide (thr < 9223372036854775808) && (decide (nodes.length < 1152921504606846976) && (decide (inner.length < 1152921504606846976) && raws inner))
def raws : List Trust → Bool
 | [] => true
 | x :: r => raw x && raws r
end
theorem qzu (t : Trust) : raw t = (decide (t.Threshold < 9223372036854775808) && (decide (t.Nodes.length < 1152921504606846976) && (decide (t.Inner.length < 1152921504606846976) && raws t.Inner))) := by cases t; simp only [raw]
theorem qy8 {l : List Trust} (h : raws l = true) : ∀ x ∈ l, raw x = true := by
 induction l with
 | nil => intro x hx; cases hx
 | cons y r ih =>
  simp only [raws, Bool.and_eq_true] at h;intro x hx;rcases List.mem_cons.1 hx with rfl | hx
  ·exact h.1
  ·exact ih h.2 x hx
theorem qt0 : ∀ t : Trust, raw t = true → ∀ n : Nat, n ≤ 400 → ∃ m : Nat, z65 t (n : Int) = some ((m : Nat) : Int) ∧ n + 1 ≤ m ∧ m < 1152921504606847378 ∧ (m ≤ 400 → n + size t + 1 ≤ m) := by
 apply Trust.ind;intro t ih h n hn;rw [qzu] at h;simp only [Bool.and_eq_true, decide_eq_true_eq] at h;obtain ⟨_, hN, hI, hR⟩ := h;have l1 : ∀ (suf : List Trust) (i m0 : Nat), t.Inner.drop i = suf → m0 < 1152921504606847378 →
   ∃ m : Nat, z48 ((m0 : Nat) : Int) (i : Int) t.Threshold t.Nodes t.Inner = some ((m : Nat) : Int) ∧ m0 ≤ m ∧ m < 1152921504606847378 ∧ (m ≤ 400 → m0 + suf.length + sizes suf ≤ m) := by
  intro suf;induction suf with
  | nil =>
   intro i m0 hd hm;refine ⟨m0, ?_, Nat.le_refl _, hm, fun _ => by simp [sizes]⟩
   apply qww;simp only [q0j hd, cond_false]
  | cons y suf ihs =>
   intro i m0 hd hm;have hlt := q0i hd;have hy : y ∈ t.Inner := List.mem_of_mem_drop (by rw [hd]; exact List.mem_cons_self)
   by_cases h4 : m0 ≤ 400
   ·obtain ⟨m1, e1, e2, e3, e4⟩ := ih y hy (qy8 hR y hy) m0 h4;obtain ⟨m, f1, f2, f3, f4⟩ := ihs (i + 1) m1 (q04 hd) e3;refine ⟨m, ?_, by omega, f3, fun hm => ?_⟩
    ·apply qww;simp only [q0a hd, cond_true, q0e (show ((m0 : Nat) : Int) ≤ 400 by omega), q08 hd, e1, Option.bind_some, q02 (show i < 4611686018427387904 by omega)]
     exact f1
    ·have := f4 hm; have := e4 (by omega); simp only [List.length_cons, sizes]; omega
   ·refine ⟨m0, ?_, Nat.le_refl _, hm, fun hh => by omega⟩
    apply qww;simp only [q0a hd, cond_true, q09 (show (400 : Int) < ((m0 : Nat) : Int) by omega), cond_false]
 obtain ⟨m, f1, f2, f3, f4⟩ := l1 t.Inner 0 (n + (1 + t.Nodes.length)) rfl (by omega)
 refine ⟨m, ?_, by omega, f3, fun hm => by have := f4 hm; rw [q1a]; omega⟩
 apply y7m;rw [q1n (a := 1) (by omega) (by omega), q1n (by omega) (by omega), show (n : Int) + (1 + ((t.Nodes.length : Nat) : Int)) = ((n + (1 + t.Nodes.length) : Nat) : Int) by omega]
 exact f1
theorem qlm {c : Config} (h : ∀ m ∈ c.Members, raw m.Trust = true) : ∃ b, z4d c = some b ∧ (b = true → c.Members.length ≤ 30 ∧ ∀ m ∈ c.Members, size m.Trust ≤ 400) := by
 by_cases hl : 30 < c.Members.length
 ·refine ⟨false, ?_, fun h => by cases h⟩
  apply y0o;rw [q03 (by omega)]
  rfl
 ·have l1 : ∀ (suf : List Member) (i m0 : Nat), c.Members.drop i = suf → m0 < 1152921504606847378 →
    ∃ b, z2j ((m0 : Nat) : Int) (i : Int) c.Members = some b ∧ (b = true → m0 ≤ 400 ∧ ∀ m ∈ suf, size m.Trust ≤ 400) := by
   intro suf;induction suf with
   | nil =>
    intro i m0 hd hm;refine ⟨leB ((m0 : Nat) : Int) 400, ?_, fun hb => ⟨by simp [leB] at hb; omega, fun m hm => by cases hm⟩⟩
    apply qu7;simp only [q0j hd, cond_false]
   | cons y suf ihs =>
    intro i m0 hd hm;have hlt := q0i hd;have hy : y ∈ c.Members := List.mem_of_mem_drop (by rw [hd]; exact List.mem_cons_self)
    by_cases h4 : m0 ≤ 400
    ·obtain ⟨m1, e1, e2, e3, e4⟩ := qt0 y.Trust (h y hy) m0 h4;obtain ⟨b, f1, f2⟩ := ihs (i + 1) m1 (q04 hd) e3;refine ⟨b, ?_, fun hb => ⟨h4, fun m hm => ?_⟩⟩
     ·apply qu7;simp only [q0a hd, cond_true, q0e (show ((m0 : Nat) : Int) ≤ 400 by omega), q08 hd, e1, Option.bind_some, q02 (show i < 4611686018427387904 by omega)]
      exact f1
     ·obtain ⟨g1, g2⟩ := f2 hb;rcases List.mem_cons.1 hm with rfl | hm
      ·have := e4 g1; omega
      ·exact g2 m hm
    ·refine ⟨false, ?_, fun h => by cases h⟩
     apply qu7;simp only [q0a hd, cond_true, q09 (show (400 : Int) < ((m0 : Nat) : Int) by omega), cond_false]
  obtain ⟨b, f1, f2⟩ := l1 c.Members 0 0 rfl (by omega)
  refine ⟨b, ?_, fun hb => ⟨by omega, (f2 hb).2⟩⟩
  apply y0o;rw [q00 (by omega)]
  exact f1
theorem qd3 {t : Trust} (h : valid t = true) : size t ≤ 200 := by
 simp only [valid, Bool.and_eq_true, decide_eq_true_eq] at h; exact h.2.1
theorem ConfOk.CB' {n : Nat} {c : Config} (h : ConfOk n c) (hn : n ≤ 10) : c.Members.length < 900000 ∧ ∀ m ∈ c.Members, size m.Trust < 900000 ∧ wf m.Trust = true := by
 refine ⟨by have := h.le; omega, fun m hm => ?_⟩
 have := h.mem m hm;unfold MemOk at this;split at this
 ·exact ⟨by have := qd3 this.1; omega, (qcp this.1).2⟩
 ·rw [this]; exact ⟨by simp [blank, size, sizes], by simp [blank, wf, wfs]⟩
theorem CB.of {c : Config} (h : c.Members.length < 900000 ∧ ∀ m ∈ c.Members, size m.Trust < 900000 ∧ wf m.Trust = true) : CB c :=
 ⟨by have := h.1; omega, fun m hm => ⟨by have := (h.2 m hm).1; omega, (h.2 m hm).2⟩⟩
end Go.Proofs.YtbmelgbadedbbaaGreat
