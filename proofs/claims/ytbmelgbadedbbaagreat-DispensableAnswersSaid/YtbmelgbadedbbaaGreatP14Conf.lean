/- Drawn configurations: valid, and of nodes that they have. -/
import Derived.Test.YtbmelgbadedbbaaGreatP14Make
namespace Go.Proofs.YtbmelgbadedbbaaGreat
open Go Go.Ab
theorem qf4 : ∀ (l : List Int) (s : Nat), fresh s l = true ↔ (∀ k ∈ l, inR k = true ∧ has s k = false) ∧ l.Nodup
 | [], s => by simp [fresh]
 | k :: r, s => by
  simp only [fresh, Bool.and_eq_true, Bool.not_eq_true', List.mem_cons, List.nodup_cons];constructor
  ·rintro ⟨h1, h2, h3⟩;obtain ⟨h4, h5⟩ := (qf4 r _).1 h3;refine ⟨fun j hj => ?_, fun hk => ?_, h5⟩
   ·rcases hj with rfl | hj
    ·exact ⟨h1, h2⟩
    ·obtain ⟨h6, h7⟩ := h4 j hj;rw [qks h1] at h7;simp only [Bool.or_eq_false_iff] at h7;exact ⟨h6, h7.1⟩
   ·have := (h4 k hk).2;rw [qks h1] at this;simp at this
  ·rintro ⟨h1, h2, h3⟩;obtain ⟨h4, h5⟩ := h1 k (.inl rfl);refine ⟨h4, h5, (qf4 r _).2 ⟨fun j hj => ?_, h3⟩⟩
   obtain ⟨h6, h7⟩ := h1 j (.inr hj);refine ⟨h6, ?_⟩;rw [qks h4, h7];have : j ≠ k := fun e => h2 (by rw [← e]; exact hj)
   simp [this]
theorem qmg {m k : Int} (hm : m ≤ 10) (h : 0 ≤ k ∧ k < m) : inR k = true := by
 simp only [inR, Bool.and_eq_true, decide_eq_true_eq]; omega
theorem quc {m : Int} (hm : m ≤ 10) {l : List Int} (h : ∀ k ∈ l, 0 ≤ k ∧ k < m) (hs : l.Pairwise (· < ·)) : fresh 0 l = true :=
 (qf4 l 0).2 ⟨fun k hk => ⟨qmg hm (h k hk), qpi k⟩, hs.imp (fun h => by omega)⟩
theorem y31 {m : Int} (hm : m ≤ 10) {l : List Int} (h : ∀ k ∈ l, 0 ≤ k ∧ k < m) : l.all inR = true := by
 rw [List.all_eq_true]; exact fun k hk => qmg hm (h k hk)
theorem qra {l : List Int} {k : Int} (h : l.Pairwise (· < ·)) (hk : ∀ x ∈ l, x < k) : (l ++ [k]).Pairwise (· < ·) := by
 rw [List.pairwise_append];exact ⟨h, by simp, fun a ha b hb => by rw [List.mem_singleton] at hb; subst hb; exact hk a ha⟩
theorem qd0 {m : Int} (h0 : 0 ≤ m) : ∀ {l : List Int}, (∀ k ∈ l, 0 ≤ k ∧ k < m) → l.Pairwise (· < ·) → (l.length : Int) ≤ m := by
 intro l h hs;have key : ∀ (l : List Int) (b : Int), (∀ k ∈ l, b ≤ k ∧ k < m) → l.Pairwise (· < ·) → b ≤ m → (l.length : Int) ≤ m - b := by
  intro l;induction l with
  | nil => intro b _ _ hb; simp; omega
  | cons x r ih =>
   intro b h hs hb;rw [List.pairwise_cons] at hs;have hx := h x (by simp)
   have := ih (x + 1) (fun k hk => ⟨by have := hs.1 k hk; omega, (h k (by simp [hk])).2⟩) hs.2 (by omega)
   simp only [List.length_cons]; omega
 have := key l 0 h hs h0;omega
theorem qqz {t : Trust} (h1 : depth t ≤ 4) (h2 : size t ≤ 200) (h3 : good t = true) : valid t = true := by
 simp only [valid, Bool.and_eq_true, decide_eq_true_eq]; exact ⟨h1, h2, h3⟩
theorem qcm {m thr : Int} (hm0 : 0 ≤ m) (hm : m ≤ 10) {l : List Int} (h : ∀ k ∈ l, 0 ≤ k ∧ k < m) (hs : l.Pairwise (· < ·)) (h1 : 1 ≤ thr) (h2 : thr ≤ (l.length : Int)) : valid ⟨thr, l, []⟩ = true := by
 have hl := qd0 hm0 h hs;refine qqz (by simp [depth, q2q]) (by rw [qf1]; simp [sizes]; omega) ?_
 rw [q99];simp only [Bool.and_eq_true, decide_eq_true_eq, quc hm h hs, y31 hm h, goods, and_true];exact ⟨h1, by simpa using h2⟩
def Good (m : Int) (t : Trust) : Prop := valid t = true ∧ below m t = true
theorem qow {m : Int} (hm : 1 ≤ m) (hm2 : m ≤ 10) {l : List Int} (a11 : Int) (a13 : List Int) (a15 : List Trust) (a17 : Int) : ∀ (n : Nat) (c i : Int) (acc : List Int), m - c = (n : Int) → 0 ≤ c → (∀ k ∈ acc, 0 ≤ k ∧ k < c) → acc.Pairwise (· < ·) → q0n l i →
  ∃ t j, z4j m c l i a11 a13 a15 a17 acc [] = some (t, l, j) ∧ Good m t ∧ q0n l j
 | 0, c, i, acc, hn, h0, hacc, hs, h => by
  obtain ⟨v, j, g1, g2, g3⟩ := qan (ps := [0, 0, 0, 1, -1]) (by decide) (by decide) h
  have hv : -1 ≤ v ∧ v ≤ 1 := by
   simp only [List.mem_cons, List.not_mem_nil, or_false] at g2; omega
  have hacc' : ∀ k ∈ acc, 0 ≤ k ∧ k < m := fun k hk => ⟨(hacc k hk).1, by have := (hacc k hk).2; omega⟩
  let clip (e b : Int) : Int := if (if e > 1 then e else 1) < b then (if e > 1 then e else 1) else b
  have clip1 : ∀ e b : Int, 1 ≤ b → 1 ≤ clip e b ∧ clip e b ≤ b := by
   intro e b hb;simp only [clip];split <;> split <;> omega
  by_cases hz : acc.length = 0
  ·have e : (addI .i64 (quoI .i64 (addI .i64 (mulI .i64 2 ((List.length [(0 : Int)] : Nat) : Int)) 2) 3) v) = 1 + v := by
    rw [show quoI .i64 (addI .i64 (mulI .i64 2 ((List.length [(0 : Int)] : Nat) : Int)) 2) 3 = 1 from by decide, q1n (by omega) (by omega)]
   refine ⟨⟨clip (1 + v) 1, [0], []⟩, j, ?_, ?_, g3⟩
   ·apply qrf;rw [q00 (by omega), hz]
    simp only [cond_false, cond_true, Int.natCast_zero, q0p];rw [g1];simp only [Option.bind_some, e];rfl
   ·obtain ⟨c1, c2⟩ := clip1 (1 + v) 1 (by omega)
    exact ⟨qcm (m := m) (by omega) hm2 (by simp; omega) (by simp) c1 (by simpa using c2), q7m (by simp; omega) rfl⟩
  ·have hl := qd0 (by omega) hacc' hs
   have hd : (2 * (acc.length : Int) + 2).tdiv 3 = (2 * (acc.length : Int) + 2) / 3 := Int.tdiv_eq_ediv_of_nonneg (by omega)
   have e : (addI .i64 (quoI .i64 (addI .i64 (mulI .i64 2 ((acc.length : Nat) : Int)) 2) 3) v) = (2 * (acc.length : Int) + 2) / 3 + v := by
    have e1 : mulI .i64 2 ((acc.length : Nat) : Int) = 2 * (acc.length : Int) := q4x (by omega) (by omega)
    have e2 : quoI .i64 (2 * (acc.length : Int) + 2) 3 = (2 * (acc.length : Int) + 2) / 3 := by
     rw [← hd]; exact q4x (by rw [hd]; omega) (by rw [hd]; omega)
    have e3 : addI .i64 (2 * (acc.length : Int)) 2 = 2 * (acc.length : Int) + 2 := q1n (by omega) (by omega)
    rw [e1, e3, e2, q1n (by omega) (by omega)]
   refine ⟨⟨clip ((2 * (acc.length : Int) + 2) / 3 + v) acc.length, acc, []⟩, j, ?_, ?_, g3⟩
   ·apply qrf;rw [q00 (by omega), q0t (by omega)]
    simp only [cond_false];rw [g1];simp only [Option.bind_some, e];rfl
   ·obtain ⟨c1, c2⟩ := clip1 ((2 * (acc.length : Int) + 2) / 3 + v) acc.length (by omega)
    exact ⟨qcm (m := m) (by omega) hm2 hacc' hs c1 c2, q7m hacc' rfl⟩
 | n + 1, c, i, acc, hn, h0, hacc, hs, h => by
  obtain ⟨v, j, g1, g2, g3, g4⟩ := N_ok (n := 10) (by decide) (by decide) h
  have hl := qd0 h0 hacc hs;by_cases hv : v < 9
  ·obtain ⟨t, j', g5, g6, g7⟩ := qow hm hm2 a11 a13 a15 a17 n (c + 1) j (acc ++ [c]) (by omega) (by omega) (fun k hk => by
    rcases List.mem_append.1 hk with hk | hk
    ·have := hacc k hk; omega
    ·rw [List.mem_singleton] at hk; omega) (qra hs fun x hx => (hacc x hx).2) g4
   refine ⟨t, j', ?_, g6, g7⟩;apply qrf;rw [q03 (by omega), g1]
   simp only [cond_true, Option.bind_some, q03 hv];rw [q06 (by simp [q0f]; omega), q1n (by omega) (by omega)]
   exact g5
  ·obtain ⟨t, j', g5, g6, g7⟩ := qow hm hm2 a11 a13 a15 a17 n (c + 1) j acc (by omega) (by omega) (fun k hk => by have := hacc k hk; omega) hs g4
   refine ⟨t, j', ?_, g6, g7⟩;apply qrf;rw [q03 (by omega), g1]
   simp only [cond_true, cond_false, Option.bind_some, q00 (show 9 ≤ v by omega)]
   rw [q1n (by omega) (by omega)]
   exact g5
theorem y2c {m : Int} (hm : 1 ≤ m) (hm2 : m ≤ 10) {l : List Int} {i : Int} (h : q0n l i) : ∃ t j, z6w m l i = some (t, l, j) ∧ Good m t ∧ q0n l j := by
 obtain ⟨t, j, g1, g2, g3⟩ := qow hm hm2 0 [] [] 0 m.toNat 0 i [] (by omega) (by omega) (by simp) (by simp) h
 exact ⟨t, j, y65 _ _ _ _ g1, g2, g3⟩
def Flat (m : Int) (x : Trust) : Prop := x.Inner = [] ∧ (∀ k ∈ x.Nodes, 0 ≤ k ∧ k < m) ∧ x.Nodes.Pairwise (· < ·) ∧ 1 ≤ x.Threshold ∧ x.Threshold ≤ (x.Nodes.length : Int)
theorem Flat.good {m : Int} (hm0 : 0 ≤ m) (hm : m ≤ 10) {x : Trust} (h : Flat m x) : Good m x := by
 obtain ⟨thr, nodes, inner⟩ := x;obtain ⟨rfl, h1, h2, h3, h4⟩ := h;exact ⟨qcm hm0 hm h1 h2 h3 h4, q7m h1 rfl⟩
theorem qt3 {m thr : Int} (hm0 : 0 ≤ m) (hm : m ≤ 10) {l : List Trust} (h : ∀ x ∈ l, Flat m x) (hl : l.length ≤ 3) (h1 : 1 ≤ thr) (h2 : thr ≤ (l.length : Int)) : Good m ⟨thr, [], l⟩ := by
 have hb : q4b m l = true ∧ goods l = true ∧ sizes l ≤ l.length * 10 ∧ q2q l ≤ 1 := by
  clear hl h2;induction l with
  | nil => simp [q4b, goods, sizes, q2q]
  | cons x r ih =>
   obtain ⟨i1, i2, i3, i4⟩ := ih (fun y hy => h y (by simp [hy]))
   have hx := h x (by simp)
   obtain ⟨g1, g2⟩ := hx.good hm0 hm;obtain ⟨e1, e2, e3, e4, e5⟩ := hx;have hlen := qd0 hm0 e2 e3;simp only [valid, Bool.and_eq_true, decide_eq_true_eq] at g1;have hsz : size x ≤ 10 := by rw [q1a, e1]; simp only [List.length_nil, sizes]; omega
   have hdp : depth x = 1 := by rw [q9t, e1]; rfl
   refine ⟨by simp only [q4b, i1, g2, Bool.and_self], by simp only [goods, i2, g1.2.2, Bool.and_self], by simp only [sizes, List.length_cons]; omega, by simp only [q2q]; omega⟩
 obtain ⟨b1, b2, b3, b4⟩ := hb;refine ⟨qqz (by rw [q9t]; show q2q l + 1 ≤ 4; omega) (by rw [qf1]; simp only [List.length_nil]; omega) ?_, q7m (by simp) b1⟩
 rw [q99];simp only [Bool.and_eq_true, decide_eq_true_eq, b2, fresh, List.all_nil, and_true];exact ⟨h1, by simpa using h2⟩
theorem qqu {m : Int} (hm : 1 ≤ m) (hm2 : m ≤ 10) {l : List Int} (a3 : Int) (a6 : List Trust) (a8 a17 : Int) (a19 : List Int) (a21 : List Trust) (i : Int) : ∀ (n : Nat) (c : Int) (nodes : List Int), m + 3 - c ≤ (n : Int) → 0 ≤ c → (∀ k ∈ nodes, 0 ≤ k ∧ k < m ∧ k < c) → nodes.Pairwise (· < ·) →
  ∃ q : List Int, (∀ k ∈ q, 0 ≤ k ∧ k < m) ∧ q.Pairwise (· < ·) ∧ (c < m → q ≠ []) ∧ (nodes ≠ [] → q ≠ []) ∧
   Le (bif (ltB 0 ((List.length q : Nat) : Int)) then Option.bind (z19 1 ((List.length q : Nat) : Int) l i) fun x0 => capOk (List.length a6 + List.length ([(Trust.mk x0.1 q [])] : List (Trust))) <| z2i m a3 (a6 ++ ([(Trust.mk x0.1 q [])] : List (Trust))) (addI .i64 a8 1) x0.2.1 x0.2.2 a17 a19 a21
   else z2i m a3 a6 (addI .i64 a8 1) l i a17 a19 a21) (z50 m a3 a6 a8 c l i a17 a19 a21 1 nodes [])
 | 0, c, nodes, hn, h0, hnd, hs => by
  refine ⟨nodes, fun k hk => ⟨(hnd k hk).1, (hnd k hk).2.1⟩, hs, fun hc => by omega, id, fun r hr => ?_⟩
  apply qv6;rw [q00 (by omega)]
  simp only [cond_false];exact hr
 | n + 1, c, nodes, hn, h0, hnd, hs => by
  by_cases hc : c < m
  ·have hlen := qd0 (by omega) (fun k hk => ⟨(hnd k hk).1, (hnd k hk).2.1⟩) hs
   obtain ⟨q, q1, q2, _, q4, q5⟩ := qqu hm hm2 a3 a6 a8 a17 a19 a21 i n (c + 3) (nodes ++ [c]) (by omega) (by omega) (fun k hk => by
    rcases List.mem_append.1 hk with hk | hk
    ·have := hnd k hk; omega
    ·rw [List.mem_singleton] at hk; omega) (qra hs fun x hx => (hnd x hx).2.2)
   refine ⟨q, q1, q2, fun _ => q4 (by simp), fun _ => q4 (by simp), fun r hr => ?_⟩
   apply qv6;rw [q03 hc, q06 (by simp [q0f]; omega), q1n (by omega) (by omega)]
   simp only [cond_true];exact q5 r hr
  ·refine ⟨nodes, fun k hk => ⟨(hnd k hk).1, (hnd k hk).2.1⟩, hs, fun hc' => absurd hc' hc, id, fun r hr => ?_⟩
   apply qv6;rw [q00 (by omega)]
   simp only [cond_false];exact hr
theorem qjk {m : Int} (hm : 1 ≤ m) (hm2 : m ≤ 10) {l : List Int} (k : Nat) : ∀ (n : Nat) (g i : Int) (acc : List Trust), 3 - g = (n : Int) → 0 ≤ g → acc.length ≤ g.toNat → (1 ≤ g → acc ≠ []) → (∀ x ∈ acc, Flat m x) → q0n l i →
  ∃ t j, z2i m (k : Int) acc g l i 0 [] [] = some (t, l, j) ∧ Good m t ∧ q0n l j
 | 0, g, i, acc, hn, h0, hl, hne, hf, h => by
  have hne := hne (by omega)
  have hpos : 0 < acc.length := List.length_pos_iff.2 hne;obtain ⟨v, j, g1, g2, g3, g4⟩ := N_ok (n := 4) (by decide) (by decide) h
  by_cases hv : v = 0
  ·have hidx : remI .i64 (k : Int) ((acc.length : Nat) : Int) = ((k % acc.length : Nat) : Int) := by
    show (k : Int).tmod (acc.length : Int) = _;rw [Int.tmod_eq_emod_of_nonneg (by omega)]; simp
   have hlt : k % acc.length < acc.length := Nat.mod_lt _ hpos;refine ⟨acc[k % acc.length], j, ?_, (hf _ (List.getElem_mem hlt)).good (by omega) hm2, g4⟩
   apply quf;rw [q00 (by omega), g1]
   simp only [cond_false, Option.bind_some, hv, q0p, cond_true];rw [q0q (by omega), hidx, q0v (by omega) (show acc[((k % acc.length : Nat) : Int).toNat]? = some acc[k % acc.length] by rw [Int.toNat_natCast]; exact List.getElem?_eq_getElem hlt), q39 (show acc[((k % acc.length : Nat) : Int).toNat]? = some acc[k % acc.length] by rw [Int.toNat_natCast]; exact List.getElem?_eq_getElem hlt), Trust.eta]
  ·have hg : g.toNat = 3 := by omega
   obtain ⟨b, j', b1, b2, b3, b4⟩ := q64 (a := if (acc.length : Int) - 1 > 1 then (acc.length : Int) - 1 else 1) (b := acc.length) (by split <;> omega) (by split <;> omega) (by omega) g4
   refine ⟨⟨b, [], acc⟩, j', ?_, qt3 (by omega) hm2 hf (by omega) (by split at b2 <;> omega) b3, b4⟩
   apply quf;rw [q00 (by omega), g1]
   simp only [cond_false, Option.bind_some, q0t hv];rw [q22 (by omega) (by omega), b1]
   rfl
 | n + 1, g, i, acc, hn, h0, hl, hne, hf, h => by
  have base : ∀ (q : List Int), (∀ k ∈ q, 0 ≤ k ∧ k < m) → q.Pairwise (· < ·) → (g < m → q ≠ []) → ∃ t j,
    (bif (ltB 0 ((List.length q : Nat) : Int)) then Option.bind (z19 1 ((List.length q : Nat) : Int) l i) fun x0 => capOk (List.length acc + List.length ([(Trust.mk x0.1 q [])] : List (Trust))) <| z2i m (k : Int) (acc ++ ([(Trust.mk x0.1 q [])] : List (Trust))) (addI .i64 g 1) x0.2.1 x0.2.2 0 [] []
    else z2i m (k : Int) acc (addI .i64 g 1) l i 0 [] []) = some (t, l, j) ∧ Good m t ∧ q0n l j := by
   intro q hq hqs hqn;rw [q1n (by omega) (by omega)]
   by_cases hq0 : q = []
   ·subst hq0;obtain ⟨t, j, e1, e2, e3⟩ := qjk hm hm2 k n (g + 1) i acc (by omega) (by omega) (by omega) (fun _ => hne (by
     have : ¬ g < m := fun h => hqn h rfl
     omega)) hf h
    exact ⟨t, j, by rw [show ltB 0 ((List.length ([] : List Int) : Nat) : Int) = false from rfl]; simpa only [cond_false] using e1, e2, e3⟩
   ·have hlen := qd0 (by omega) hq hqs
    have hpos : 0 < q.length := List.length_pos_iff.2 hq0;obtain ⟨b, j', b1, b2, b3, b4⟩ := q64 (a := 1) (b := q.length) (by omega) (by omega) (by omega) h
    obtain ⟨t, j, e1, e2, e3⟩ := qjk hm hm2 k n (g + 1) j' (acc ++ [⟨b, q, []⟩]) (by omega) (by omega) (by simp; omega) (fun _ => by simp) (fun x hx => by
     rcases List.mem_append.1 hx with hx | hx
     ·exact hf x hx
     ·rw [List.mem_singleton] at hx; subst hx; exact ⟨rfl, hq, hqs, b2, b3⟩) b4
    refine ⟨t, j, ?_, e2, e3⟩;rw [q03 (by omega), b1]
    simp only [cond_true, Option.bind_some];rw [q06 (by simp [q0f]; omega)]
    exact e1
  obtain ⟨q, q1, q2, q3, _, q5⟩ := qqu (l := l) hm hm2 (k : Int) acc g 0 [] [] i (m + 3 - g).toNat g [] (by omega) h0 (by simp) (by simp)
  obtain ⟨t, j, e1, e2, e3⟩ := base q q1 q2 q3;refine ⟨t, j, ?_, e2, e3⟩;apply quf;rw [q03 (by omega)]
  simp only [cond_true];exact q5 _ e1
theorem qxq {m : Int} (hm : 1 ≤ m) (hm2 : m ≤ 10) {l : List Int} {i : Int} (k : Nat) (h : q0n l i) : ∃ t j, z6t m (k : Int) l i = some (t, l, j) ∧ Good m t ∧ q0n l j := by
 obtain ⟨t, j, g1, g2, g3⟩ := qjk hm hm2 k 3 0 i [] rfl (by omega) (by simp) (by omega) (by simp) h
 exact ⟨t, j, y69 _ _ _ _ _ g1, g2, g3⟩
def blank : Trust := ⟨0, [], []⟩
def MemOk (m : Int) (x : Member) : Prop := if x.Declared then Good m x.Trust else x.Trust = blank
structure ConfOk (n : Nat) (c : Config) : Prop where
 pos : 1 ≤ c.Members.length
 le : c.Members.length ≤ n
 mem : ∀ x ∈ c.Members, MemOk (c.Members.length : Int) x
theorem qms {m : Int} (hm : 1 ≤ m) (hm2 : m ≤ 10) {l : List Int} (kind : Int) (a13 : List Member) : ∀ (n : Nat) (c : Nat) (i : Int) (acc : List Member), m - c = (n : Int) → acc.length = c → (∀ x ∈ acc, MemOk m x) → q0n l i →
  ∃ q j, z1f m kind (c : Int) l i a13 acc = some (⟨q⟩, l, j) ∧ ((q.length : Nat) : Int) = m ∧ (∀ x ∈ q, MemOk m x) ∧ q0n l j
 | 0, c, i, acc, hn, hl, hacc, h => by
  refine ⟨acc, i, ?_, by omega, hacc, h⟩
  apply qqs;rw [q00 (by omega)]
  rfl
 | n + 1, c, i, acc, hn, hl, hacc, h => by
  have rest : ∀ (x : Trust) (i1 : Int), Good m x → q0n l i1 → ∃ q j, (Option.bind (z11 12 l i1) fun x1 =>
     bif (eqB x1.1 11) then capOk (List.length acc + List.length ([(Member.mk false (Trust.mk 0 ([] : List (Int)) ([] : List (Trust))))] : List (Member))) <| z1f m kind (addI .i64 (c : Int) 1) x1.2.1 x1.2.2 a13 (acc ++ ([(Member.mk false (Trust.mk 0 ([] : List (Int)) ([] : List (Trust))))] : List (Member)))
     else capOk (List.length acc + List.length ([(Member.mk true (Trust.mk x.Threshold x.Nodes x.Inner))] : List (Member))) <| z1f m kind (addI .i64 (c : Int) 1) x1.2.1 x1.2.2 a13 (acc ++ ([(Member.mk true (Trust.mk x.Threshold x.Nodes x.Inner))] : List (Member)))) = some (⟨q⟩, l, j) ∧
     ((q.length : Nat) : Int) = m ∧ (∀ x ∈ q, MemOk m x) ∧ q0n l j := by
   intro x i1 hx h1;obtain ⟨v, j, g1, g2, g3, g4⟩ := N_ok (n := 12) (by decide) (by decide) h1
   have step : ∀ y : Member, MemOk m y → ∃ q j', z1f m kind (addI .i64 (c : Int) 1) l j a13 (acc ++ [y]) = some (⟨q⟩, l, j') ∧ ((q.length : Nat) : Int) = m ∧ (∀ x ∈ q, MemOk m x) ∧ q0n l j' := by
    intro y hy;rw [q02 (by omega)]
    refine qms hm hm2 kind a13 n (c + 1) j (acc ++ [y]) (by omega) (by simp; omega) (fun z hz => ?_) g4
    rcases List.mem_append.1 hz with hz | hz
    ·exact hacc z hz
    ·rw [List.mem_singleton] at hz; subst hz; exact hy
   by_cases hv : v = 11
   ·obtain ⟨q, j', e1, e2⟩ := step ⟨false, blank⟩ rfl;refine ⟨q, j', ?_, e2⟩;rw [g1];simp only [Option.bind_some, hv, q0p, cond_true];rw [q06 (by simp [q0f]; omega)]
    exact e1
   ·obtain ⟨q, j', e1, e2⟩ := step ⟨true, x⟩ hx;refine ⟨q, j', ?_, e2⟩;rw [g1];simp only [Option.bind_some, q0t hv, cond_false, Trust.eta];rw [q06 (by simp [q0f]; omega)]
    exact e1
  by_cases k0 : kind = 0
  ·obtain ⟨x, j, g1, g2, _, g3⟩ := qqc hm hm2 1 (by decide) h
   obtain ⟨q, j', e1, e2⟩ := rest x j g2 g3;refine ⟨q, j', ?_, e2⟩;apply qqs;rw [q03 (by omega), show eqB kind 0 = true by rw [k0]; rfl]
   simp only [cond_true];rw [show (2 : Int) = ((1 + 1 : Nat) : Int) from rfl, g1]
   simp only [Option.bind_some];exact e1
  ·by_cases k1 : kind = 1
   ·obtain ⟨x, j, g1, g2, g3⟩ := y2c hm hm2 h;obtain ⟨q, j', e1, e2⟩ := rest x j g2 g3;refine ⟨q, j', ?_, e2⟩;apply qqs;rw [q03 (by omega), q0t k0, show eqB kind 1 = true by rw [k1]; rfl, g1]
    simp only [cond_true, cond_false, Option.bind_some];exact e1
   ·obtain ⟨x, j, g1, g2, g3⟩ := qxq hm hm2 c h;obtain ⟨q, j', e1, e2⟩ := rest x j g2 g3;refine ⟨q, j', ?_, e2⟩;apply qqs;rw [q03 (by omega), q0t k0, q0t k1, g1]
    simp only [cond_true, cond_false, Option.bind_some];exact e1
theorem qtu {n : Nat} (h1 : 1 ≤ n) (h2 : n ≤ 10) {l : List Int} {i : Int} (h : q0n l i) : ∃ c j, z6o (n : Int) l i = some (c, l, j) ∧ ConfOk n c ∧ q0n l j := by
 obtain ⟨m, j, a1, a2, a3, a4⟩ := q64 (a := 1) (b := (n : Int)) (by omega) (by omega) (by omega) h
 obtain ⟨kind, j1, b1, _, _, b4⟩ := N_ok (n := 3) (by decide) (by decide) a4
 obtain ⟨q, j2, c1, c2, c3, c4⟩ := qms (l := l) a2 (by omega) kind [] m.toNat 0 j1 [] (by omega) rfl (by simp) b4
 refine ⟨⟨q⟩, j2, ?_, ⟨by show 1 ≤ q.length; omega, by show q.length ≤ n; omega, fun x hx => by show MemOk ((q.length : Nat) : Int) x; rw [c2]; exact c3 x hx⟩, c4⟩
 apply y4m;rw [a1];simp only [Option.bind_some];rw [b1];exact c1
end Go.Proofs.YtbmelgbadedbbaaGreat
