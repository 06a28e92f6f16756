/- A drawn pair of configurations. -/
import Derived.Test.YtbmelgbadedbbaaGreatP14Tcmp
import Derived.Test.YtbmelgbadedbbaaGreatP14Dset
namespace Go.Proofs.YtbmelgbadedbbaaGreat
open Go Go.Ab Go.Sort
theorem qy6 {m : Nat} : ∀ t : Trust, good t = true → uses t < 2 ^ m → below (m : Int) t = true := by
 apply Trust.ind;intro t ih hg hu;rw [q99] at hg;simp only [Bool.and_eq_true, decide_eq_true_eq] at hg;obtain ⟨_, _, hN, _, hI⟩ := hg;rw [q67] at hu;have hu' := q1k.1 hu;rw [qq8, Bool.and_eq_true];refine ⟨?_, ?_⟩
 ·rw [List.all_eq_true];intro k hk;have hkr := List.all_eq_true.1 hN k hk;have h1 := qf0 hk hkr;obtain ⟨j, rfl, hj, hb⟩ := qmi h1;have h2 := hu' j (by rw [Nat.testBit_or, hb]; rfl)
  rw [Nat.testBit_two_pow_sub_one, decide_eq_true_eq] at h2;simp; omega
 ·have hgs : ∀ l : List Trust, goods l = true → ∀ x ∈ l, good x = true := by
   intro l;induction l with
   | nil => intro _ x hx; cases hx
   | cons y r ihr =>
    intro h x hx;simp only [goods, Bool.and_eq_true] at h;rcases List.mem_cons.1 hx with rfl | hx
    ·exact h.1
    ·exact ihr h.2 x hx
  have key : ∀ l : List Trust, (∀ x ∈ l, below (m : Int) x = true) → q4b (m : Int) l = true := by
   intro l;induction l with
   | nil => intro _; rfl
   | cons y r ihr => intro h; simp only [q4b, h y (by simp), ihr (fun x hx => h x (by simp [hx])), Bool.and_self]
  refine key _ fun x hx => ih x hx (hgs _ hI x hx) ?_
  exact q1k.2 fun i hi => hu' i (by rw [Nat.testBit_or, qgg hx i hi, Bool.or_true])
theorem ValidC.conf {c : Config} {n : Nat} (h : ValidC c) (h1 : 1 ≤ c.Members.length) (h2 : c.Members.length ≤ n) : ConfOk n c :=
 ⟨h1, h2, fun m hm => by
  have := h.2 m hm;unfold MemV at this;unfold MemOk;split
  ·rename_i hd;rw [if_pos hd] at this;exact ⟨this.1, qy6 _ (qt5 this.1) this.2⟩
  ·rename_i hd;rw [if_neg hd] at this;exact this⟩
theorem qtn (a b : Bool) (d : List Trust) : (memJ a d).Declared = (memJ b d).Declared := by
 match d with
 | [] => rfl
 | [_] => rfl
 | _ :: _ :: _ => rfl
theorem qrc {s : Nat} : ∀ {l : List Trust}, 1 ≤ sats s l ↔ ∃ x ∈ l, sat s x = true
 | [] => by simp [sats]
 | x :: r => by
  have ih := qrc (s := s) (l := r);simp only [sats, List.mem_cons, exists_eq_or_imp, ← ih];cases sat s x <;> simp <;> omega
theorem qw7 (s : Nat) : ∀ l : List Trust, sats s l ≤ l.length
 | [] => by simp [sats]
 | x :: r => by
  have := qw7 s r;simp only [sats, List.length_cons]; split <;> omega
theorem qpd {s : Nat} : ∀ {l : List Trust}, l.length ≤ sats s l ↔ ∀ x ∈ l, sat s x = true
 | [] => by simp [sats]
 | x :: r => by
  have ih := qpd (s := s) (l := r);have h2 := qw7 s r;simp only [sats, List.length_cons, List.mem_cons, forall_eq_or_imp, ← ih];cases sat s x
  ·simp; omega
  ·simp; omega
theorem qtt {s : Nat} {d : List Trust} (h0 : d ≠ []) : sat s (memJ true d).Trust = true ↔ ∀ x ∈ d, sat s x = true := by
 match d, h0 with
 | [x], _ => simp [memJ]
 | x :: y :: r, _ =>
  rw [← qpd];unfold memJ;rw [q8b];simp only [if_true, cnt, List.countP_nil, Nat.zero_add, decide_eq_true_eq];omega
theorem qx4 {s : Nat} {d : List Trust} (h0 : d ≠ []) : sat s (memJ false d).Trust = true ↔ ∃ x ∈ d, sat s x = true := by
 match d, h0 with
 | [x], _ => simp [memJ]
 | x :: y :: r, _ =>
  rw [← qrc];unfold memJ;rw [q8b];simp only [Bool.false_eq_true, if_false, cnt, List.countP_nil, Nat.zero_add, decide_eq_true_eq];omega
theorem q6s (a : Bool) (l : List (List Trust)) : (joinC a l).Members.length = l.length := by unfold joinC; simp
theorem qfy (a : Bool) (l : List (List Trust)) (k : Nat) : (joinC a l).Members[k]? = (l[k]?).map fun x => memJ a (diffs x) := by unfold joinC; simp
theorem qho (a b : Bool) (l : List (List Trust)) : decl (joinC a l) = decl (joinC b l) := by
 apply Nat.eq_of_testBit_eq;intro i;rw [Bool.eq_iff_iff, q2w, q2w, qfy, qfy];cases h : l[i]? with
 | none => simp
 | some x => simp [qtn a b]
theorem qi1 {a : Bool} {l : List (List Trust)} (h : joinE a l = 0) : l.length ≤ 10 ∧ qad l = 0 ∧ cerr (joinC a l) = 0 := by
 unfold joinE at h;split at h
 ·cases h
 ·split at h
  ·rename_i h1 h2; exact ⟨by omega, h2, h⟩
  ·rename_i h2; exact absurd h h2
theorem qwf {n : Nat} {l : List (List Trust)} (h1 : 1 ≤ l.length) (h2 : l.length ≤ n) (e0 : joinE false l = 0) (e1 : joinE true l = 0) : PairOk n (joinC false l) (joinC true l) := by
 obtain ⟨_, _, c0⟩ := qi1 e0;obtain ⟨_, _, c1⟩ := qi1 e1;refine ⟨(q1g.1 c0).conf (by rw [q6s]; exact h1) (by rw [q6s]; exact h2), (q1g.1 c1).conf (by rw [q6s]; exact h1) (by rw [q6s]; exact h2), by rw [q6s, q6s], qho _ _ _, fun k s hk hs h => ?_⟩
 obtain ⟨m, m1, m2, m3⟩ := q4o hk;rw [qho false true] at hk;obtain ⟨m', m1', m2', m3'⟩ := q4o hk;rw [qfy] at m1 m1';cases hx : l[k]? with
 | none => rw [hx] at m1; cases m1
 | some x =>
  rw [hx] at m1 m1';simp only [Option.map_some, Option.some.injEq] at m1 m1';have h0 : diffs x ≠ [] := fun e => by rw [← m1, e] at m3; cases m3
  rw [m2, ← m1, qx4 h0];rw [m2', ← m1', qtt h0] at h;obtain ⟨y, r, hy⟩ := List.exists_cons_of_ne_nil h0;exact ⟨y, by rw [hy]; simp, h y (by rw [hy]; simp)⟩
theorem y2l {m : Int} (h1 : 1 ≤ m) (h2 : m ≤ 10) {x : Trust} (hx : size x ≤ 200) {l : List Int} {i : Int} (h : q0n l i) : ∃ t j, z6n x m l i = some (t, l, j) ∧ Small t ∧ q0n l j := by
 obtain ⟨v, j, g1, g2, g3, g4⟩ := N_ok (n := 3) (by decide) (by decide) h
 have hsm : ∀ k, Small (Trust.mk k x.Nodes x.Inner) := fun k => by
  rw [q1a] at hx;unfold Small; rw [q1a]; simp only; omega
 by_cases h0 : v = 0
 ·refine ⟨Trust.mk (if (addI .i64 x.Threshold 1) < (addI .i64 ((List.length x.Nodes : Nat) : Int) ((List.length x.Inner : Nat) : Int)) then (addI .i64 x.Threshold 1) else (addI .i64 ((List.length x.Nodes : Nat) : Int) ((List.length x.Inner : Nat) : Int))) x.Nodes x.Inner, j, ?_, hsm _, g4⟩
  apply qur;rw [g1];simp only [Option.bind_some];rw [h0, q0p];rfl
 ·by_cases h1' : v = 1
  ·refine ⟨Trust.mk (if (subI .i64 x.Threshold 1) > 1 then (subI .i64 x.Threshold 1) else 1) x.Nodes x.Inner, j, ?_, hsm _, g4⟩
   apply qur;rw [g1];simp only [Option.bind_some];rw [q0t h0, h1', q0p];simp only [cond_false, cond_true]
  ·obtain ⟨t, j2, k1, _, k3, k4⟩ := qqc h1 h2 1 (by decide) g4
   refine ⟨t, j2, ?_, k3, k4⟩;apply qur;rw [g1];simp only [Option.bind_some];rw [q0t h0, q0t h1', show (2 : Int) = ((1 + 1 : Nat) : Int) from rfl, k1]
   simp only [cond_false, Option.bind_some, Trust.eta]
def PairR (n : Nat) (tl : List Int) (r : Option (Config × Config × List Int × Int)) : Prop := ∃ lo hi j, r = some (lo, hi, tl, j) ∧ PairOk n lo hi ∧ q0n tl j
theorem quq {n : Nat} {ms : List Member} (hm1 : 1 ≤ ms.length) (hm2 : ms.length ≤ 10) {acc : List (List Trust)} (hacc : acc.length < 100) {len : Int} {i0 : Nat} (hi0 : i0 < 1000) {tl : List Int} {d1 d2 : List Member} {t : Trust} {b : Bool} (ht : size t ≤ 200)
  (K : ∀ x i, (x.length < 1000000 ∧ ∀ y ∈ x, Small y) → q0n tl i → PairR n tl (z38 (acc ++ [x]) ms len ((i0 + 1 : Nat) : Int) tl i d1 d2 ms)) : ∀ (k : Nat) (x : List Trust) (i : Int), x.length + k < 1000 → (∀ y ∈ x, Small y) → q0n tl i →
  PairR n tl (z5u acc x (k : Int) ms len (i0 : Int) tl i d1 d2 ms b t.Threshold t.Nodes t.Inner)
 | 0, x, i, hx, hs, h => by
  obtain ⟨lo, hi, j, g1, g2, g3⟩ := K x i ⟨by omega, hs⟩ h
  refine ⟨lo, hi, j, ?_, g2, g3⟩;apply qze;rw [q00 (by omega)]
  simp only [cond_false];rw [q06 (by simp [q0f]; omega), q02 (by omega)]
  exact g1
 | k + 1, x, i, hx, hs, h => by
  obtain ⟨y, j, k1, k2, k3⟩ := y2l (m := ((ms.length : Nat) : Int)) (by omega) (by omega) ht h
  obtain ⟨lo, hi, j2, g1, g2, g3⟩ := quq hm1 hm2 hacc hi0 (b := b) ht K k (x ++ [y]) j (by simp; omega) (fun z hz => by
   rcases List.mem_append.1 hz with hz | hz
   ·exact hs z hz
   ·rw [List.mem_singleton.1 hz]; exact k2) k3
  refine ⟨lo, hi, j2, ?_, g2, g3⟩;apply qze;rw [q03 (by omega)]
  simp only [cond_true, Trust.eta];rw [k1];simp only [Option.bind_some];rw [q06 (by simp [q0f]; omega), q22 (by omega) (by omega), show ((k + 1 : Nat) : Int) - 1 = ((k : Nat) : Int) by omega]
  exact g1
theorem qtk {n : Nat} (hn : n ≤ 10) {c : Config} (hc : ConfOk n c) {tl : List Int} {d1 d2 : List Member} : ∀ (suf pre : List Member) (acc : List (List Trust)) (i : Int), c.Members = pre ++ suf → acc.length = pre.length → qld acc → q0n tl i →
  PairR n tl (z38 acc c.Members ((c.Members.length : Nat) : Int) ((pre.length : Nat) : Int) tl i d1 d2 c.Members)
 | [], pre, acc, i, e, ha, hs, h => by
  have hpos := hc.pos;have hle := hc.le;rw [List.append_nil] at e;have hal : acc.length = c.Members.length := by rw [e]; exact ha
  have hL := y2i hs (show acc.length < 1000000 by omega)
  have hH := qys hs (show acc.length < 1000000 by omega)
  have key : ∀ lo hi, PairOk n lo hi → (bif neB (joinR false acc).2 0 then some (Config.mk c.Members, Config.mk c.Members, tl, i) else bif neB (joinR true acc).2 0 then some (Config.mk c.Members, Config.mk c.Members, tl, i) else some (Config.mk (joinR false acc).1.Members, Config.mk (joinR true acc).1.Members, tl, i)) = some (lo, hi, tl, i) → PairR n tl (z38 acc c.Members ((c.Members.length : Nat) : Int) ((pre.length : Nat) : Int) tl i d1 d2 c.Members) := by
   intro lo hi hp he;refine ⟨lo, hi, i, ?_, hp, h⟩;apply qw3;rw [q00 (by rw [e]; exact Int.le_refl _)]
   simp only [cond_false];rw [hL];simp only [Option.bind_some];rw [hH];simp only [Option.bind_some];exact he
  by_cases e0 : joinE false acc = 0
  ·by_cases e1 : joinE true acc = 0
   ·refine key _ _ (qwf (by omega) (by omega) e0 e1) ?_
    rw [show joinR false acc = (joinC false acc, 0) from by unfold joinR; rw [if_pos e0], show joinR true acc = (joinC true acc, 0) from by unfold joinR; rw [if_pos e1]]
    rfl
   ·refine key _ _ (PairOk.self hc) ?_;rw [show joinR false acc = (joinC false acc, 0) from by unfold joinR; rw [if_pos e0], show joinR true acc = (⟨[]⟩, joinE true acc) from by unfold joinR; rw [if_neg e1]]
    simp only [q0d, cond_false, q0s e1, cond_true]
  ·refine key _ _ (PairOk.self hc) ?_;rw [show joinR false acc = (⟨[]⟩, joinE false acc) from by unfold joinR; rw [if_neg e0]]
   simp only [q0s e0, cond_true]
 | m :: suf, pre, acc, i, e, ha, hs, h => by
  have hpos := hc.pos;have hle := hc.le;have hd : c.Members.drop pre.length = m :: suf := by rw [e]; simp
  have hlt := q0i hd;have hm : m ∈ c.Members := by rw [e]; simp
  have go : ∀ x i, (x.length < 1000000 ∧ ∀ y ∈ x, Small y) → q0n tl i → PairR n tl (z38 (acc ++ [x]) c.Members ((c.Members.length : Nat) : Int) ((pre.length + 1 : Nat) : Int) tl i d1 d2 c.Members) := fun x i hx hi => by
   have := qtk hn hc (d1 := d1) (d2 := d2) suf (pre ++ [m]) (acc ++ [x]) i (by rw [e]; simp) (by simp [ha]) (fun y hy => by
    rcases List.mem_append.1 hy with hy | hy
    ·exact hs y hy
    ·rw [List.mem_singleton.1 hy]; exact hx) hi
   rw [List.length_append] at this;exact this
  cases hdec : m.Declared with
  | false =>
   obtain ⟨lo, hi, j, g1, g2, g3⟩ := go [] i ⟨by simp, by simp⟩ h
   refine ⟨lo, hi, j, ?_, g2, g3⟩;apply qw3;rw [q0a hd];simp only [cond_true, q08 hd, hdec, cond_false];rw [q06 (by simp [q0f]; omega), q02 (by omega)]
   exact g1
  | true =>
   have hv := (hc.good m hm hdec).1;obtain ⟨v, j0, k1, k2, k3, k4⟩ := N_ok (n := 3) (by decide) (by decide) h
   obtain ⟨w, rfl⟩ := Int.eq_ofNat_of_zero_le k2;obtain ⟨lo, hi, j, g1, g2, g3⟩ := quq (n := n) (b := true) hpos (by omega) (show acc.length < 100 by omega) (i0 := pre.length) (by omega) (d1 := d1) (d2 := d2) (qd3 hv) go w [m.Trust] j0 (by simp; omega) (fun y hy => by rw [List.mem_singleton.1 hy]; exact q2z hv) k4
   refine ⟨lo, hi, j, ?_, g2, g3⟩;apply qw3;rw [q0a hd];simp only [cond_true, q08 hd, hdec];rw [q06 (by simp [q0f]), k1]
   simp only [Option.bind_some, Trust.eta, List.nil_append];exact g1
theorem y2k {n : Nat} (h1 : 1 ≤ n) (hn : n ≤ 10) {tl : List Int} {i : Int} (h : q0n tl i) : ∃ lo hi j, z6r (n : Int) tl i = some (lo, hi, tl, j) ∧ PairOk n lo hi ∧ q0n tl j := by
 obtain ⟨c, j, a1, a2, a3⟩ := qtu h1 hn h;obtain ⟨v, j2, b1, b2, b3, b4⟩ := N_ok (n := 2) (by decide) (by decide) a3
 by_cases h0 : v = 0
 ·refine ⟨c, c, j2, ?_, PairOk.self a2, b4⟩;apply y1r;rw [a1];simp only [Option.bind_some];rw [b1];simp only [Option.bind_some, h0, q0p, cond_true]
 ·obtain ⟨lo, hi, j3, g1, g2, g3⟩ := qtk hn a2 (d1 := []) (d2 := []) c.Members [] [] j2 rfl rfl (fun x hx => by cases hx) b4
  refine ⟨lo, hi, j3, ?_, g2, g3⟩;apply y1r;rw [a1];simp only [Option.bind_some];rw [b1];simp only [Option.bind_some];rw [q0t h0];exact g1
end Go.Proofs.YtbmelgbadedbbaaGreat
