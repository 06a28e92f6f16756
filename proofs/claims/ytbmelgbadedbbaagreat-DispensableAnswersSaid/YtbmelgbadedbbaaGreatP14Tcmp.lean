/- Trusts are compared; the different trusts of a list; lists of trusts joined to one configuration. -/
import Derived.Test.YtbmelgbadedbbaaGreatP14Seekl
namespace Go.Proofs.YtbmelgbadedbbaaGreat
open Go Go.Ab Go.Sort
def lexI : List Int → List Int → Int
 | [], [] => 0
 | [], _ :: _ => -1
 | _ :: _, [] => 1
 | x :: xs, y :: ys => if cmpI x y ≠ 0 then cmpI x y else lexI xs ys
mutual
def tcmp : Trust → Trust → Int
 | ⟨a, xs, ts⟩, ⟨b, ys, us⟩ => if cmpI a b ≠ 0 then cmpI a b else if lexI xs ys ≠ 0 then lexI xs ys else tcmps ts us
def tcmps : List Trust → List Trust → Int
 | [], [] => 0
 | [], _ :: _ => -1
 | _ :: _, [] => 1
 | t :: ts, u :: us => if tcmp t u ≠ 0 then tcmp t u else tcmps ts us
end
theorem qw9 (t u : Trust) : tcmp t u = if cmpI t.Threshold u.Threshold ≠ 0 then cmpI t.Threshold u.Threshold else if lexI t.Nodes u.Nodes ≠ 0 then lexI t.Nodes u.Nodes else tcmps t.Inner u.Inner := by
 cases t; cases u; simp only [tcmp]
theorem q9e {a b : Int} : cmpI a b = 0 ↔ a = b := by
 unfold cmpI; split
 ·simp; omega
 ·split
  ·simp; omega
  ·simp; omega
theorem qgr : ∀ {a b : List Int}, lexI a b = 0 ↔ a = b
 | [], [] => by simp [lexI]
 | [], _ :: _ => by simp [lexI]
 | _ :: _, [] => by simp [lexI]
 | x :: xs, y :: ys => by
  unfold lexI;by_cases h : cmpI x y = 0
  ·rw [if_neg (by simp [h]), qgr, q9e.1 h]; simp
  ·rw [if_pos h];have : x ≠ y := fun e => h (q9e.2 e)
   simp [h, this]
theorem qtv : ∀ a b : Trust, tcmp a b = 0 ↔ a = b := by
 apply Trust.ind;intro a ih b;have l : ∀ ts : List Trust, (∀ x ∈ ts, ∀ b, tcmp x b = 0 ↔ x = b) → ∀ us : List Trust, tcmps ts us = 0 ↔ ts = us := by
  intro ts;induction ts with
  | nil => intro _ us; cases us <;> simp [tcmps]
  | cons t ts iht =>
   intro h us;cases us with
   | nil => simp [tcmps]
   | cons u us =>
    unfold tcmps;by_cases h0 : tcmp t u = 0
    ·rw [if_neg (by simp [h0]), iht (fun x hx => h x (by simp [hx])), (h t (by simp) u).1 h0]; simp
    ·rw [if_pos h0];have : t ≠ u := fun e => h0 ((h t (by simp) u).2 e)
     simp [h0, this]
 rw [qw9];obtain ⟨ta, na, ia⟩ := a;obtain ⟨tb, nb, ib⟩ := b;simp only [Trust.mk.injEq];by_cases h1 : cmpI ta tb = 0
 ·rw [if_neg (by simp [h1])]
  by_cases h2 : lexI na nb = 0
  ·rw [if_neg (by simp [h2]), l ia ih ib, q9e.1 h1, qgr.1 h2]; simp
  ·rw [if_pos h2];have : na ≠ nb := fun e => h2 (qgr.2 e)
   simp [h2, this]
 ·rw [if_pos h1];have : ta ≠ tb := fun e => h1 (q9e.2 e)
  simp [h1, this]
theorem q61 (a b : Int) : z4m a b = some (cmpI a b) := by
 apply y41;unfold cmpI;by_cases h : a < b
 ·rw [q03 h, if_pos h]; rfl
 ·rw [q00 (by omega), if_neg h]
  by_cases h2 : b < a
  ·rw [q03 h2, if_pos h2]; rfl
  ·rw [q00 (by omega), if_neg h2]; rfl
theorem qp3 {α : Type} {xs ys : List α} {i : Nat} (h1 : xs.drop i = []) (h2 : ys.drop i = []) (l1 : i ≤ xs.length) (l2 : i ≤ ys.length) : cmpI ((xs.length : Nat) : Int) ((ys.length : Nat) : Int) = 0 := by
 have := List.drop_eq_nil_iff.1 h1; have := List.drop_eq_nil_iff.1 h2;exact q9e.2 (by omega)
theorem qpr {a b : Int} (h : a < b) : cmpI a b = -1 := by unfold cmpI; rw [if_pos h]
theorem qqa {a b : Int} (h : b < a) : cmpI a b = 1 := by unfold cmpI; rw [if_neg (by omega), if_pos h]
theorem qqh {xs ys : List Int} (hx : xs.length < 1152921504606846976) {t u : Int} {ts us : List Trust} (K : z1p 0 t xs ts u ys us = some (tcmps ts us)) : ∀ (sx sy : List Int) (i : Nat), xs.drop i = sx → ys.drop i = sy → i ≤ xs.length → i ≤ ys.length →
  z2d (i : Int) t xs ts u ys us = some (if lexI sx sy ≠ 0 then lexI sx sy else tcmps ts us)
 | [], [], i, h1, h2, l1, l2 => by
  apply qqr;rw [q0j h1, q61, qp3 h1 h2 l1 l2];simp only [cond_false, Option.bind_some, q0d];rw [K]; rfl
 | [], y :: sy, i, h1, h2, l1, l2 => by
  have h3 := q0i h2;have := List.drop_eq_nil_iff.1 h1;apply qqr;rw [q0j h1, q61, qpr (by omega)]
  rfl
 | x :: sx, [], i, h1, h2, l1, l2 => by
  have h3 := q0i h1;have := List.drop_eq_nil_iff.1 h2;apply qqr;rw [q0a h1, q0j h2, q61, qqa (by omega)]
  rfl
 | x :: sx, y :: sy, i, h1, h2, l1, l2 => by
  have h3 := q0i h1;have h4 := q0i h2;have ih := qqh hx K sx sy (i + 1) (q04 h1) (q04 h2) (by omega) (by omega)
  apply qqr;rw [q0a h1, q0a h2];simp only [cond_true, q08 h1, q08 h2];rw [q61];simp only [Option.bind_some];by_cases h : cmpI x y = 0
  ·rw [h, q0d, q02 (by omega), ih]
   simp only [cond_false, lexI, h, ne_eq, not_true, if_false]
  ·rw [q0s h];simp only [cond_true, lexI, if_pos h]
theorem qph : ∀ a : Trust, Small a → ∀ b : Trust, Small b → z5e a b = some (tcmp a b) := by
 apply Trust.ind;intro a ih ha b hb;have hna := ha.nodes;have hia := ha.inner;have l2 : ∀ (st su : List Trust) (i : Nat), a.Inner.drop i = st → b.Inner.drop i = su → i ≤ a.Inner.length → i ≤ b.Inner.length →
   z1p (i : Int) a.Threshold a.Nodes a.Inner b.Threshold b.Nodes b.Inner = some (tcmps st su) := by
  intro st;induction st with
  | nil =>
   intro su i h1 h2 l1 l2;cases su with
   | nil =>
    apply qqm;rw [q0j h1, q61, qp3 h1 h2 l1 l2]; rfl
   | cons u su =>
    have h3 := q0i h2;have := List.drop_eq_nil_iff.1 h1;apply qqm;rw [q0j h1, q61, qpr (by omega)]; rfl
  | cons t st iht =>
   intro su i h1 h2 l1 l2;have h3 := q0i h1;cases su with
   | nil =>
    have := List.drop_eq_nil_iff.1 h2;apply qqm;rw [q0a h1, q0j h2, q61, qqa (by omega)]; rfl
   | cons u su =>
    have h4 := q0i h2;have ht : t ∈ a.Inner := List.mem_of_mem_drop (by rw [h1]; exact List.mem_cons_self)
    have hu : u ∈ b.Inner := List.mem_of_mem_drop (by rw [h2]; exact List.mem_cons_self)
    have ih' := iht su (i + 1) (q04 h1) (q04 h2) (by omega) (by omega)
    apply qqm;rw [q0a h1, q0a h2];simp only [cond_true, q08 h1, q08 h2];rw [ih t ht (ha.mem ht) u (hb.mem hu)];simp only [Option.bind_some];by_cases h : tcmp t u = 0
    ·rw [h, q0d, q02 (by omega), ih']
     simp only [cond_false, tcmps, h, ne_eq, not_true, if_false]
    ·rw [q0s h];simp only [cond_true, tcmps, if_pos h]
 have l1 := qqh (ys := b.Nodes) hna (l2 a.Inner b.Inner 0 rfl rfl (by omega) (by omega)) a.Nodes b.Nodes 0 rfl rfl (by omega) (by omega)
 rw [qw9];apply y87;rw [q61];simp only [Option.bind_some];by_cases h : cmpI a.Threshold b.Threshold = 0
 ·rw [h, q0d];simp only [cond_false, ne_eq, not_true, if_false];exact l1
 ·rw [q0s h, if_pos h]; rfl
theorem y3g {α : Type} (u v : List α) (z x : α) :
  List.set (List.take (u.length + 1) (u ++ v ++ [z]) ++ List.take ((u ++ v ++ [z]).length - (u.length + 1)) (List.drop u.length (List.take (u ++ v ++ [z]).length (u ++ v ++ [z]))) ++
   List.drop (u.length + 1 + min ((u ++ v ++ [z]).length - (u.length + 1)) (List.drop u.length (List.take (u ++ v ++ [z]).length (u ++ v ++ [z]))).length) (u ++ v ++ [z])) u.length x = u ++ [x] ++ v := by
 rw [List.take_length];have e1 : List.drop u.length (u ++ v ++ [z]) = v ++ [z] := by rw [List.append_assoc, List.drop_left]
 rw [e1];have e2 : (u ++ v ++ [z]).length - (u.length + 1) = v.length := by simp; omega
 rw [e2, List.take_left];have e3 : min v.length (v ++ [z]).length = v.length := by simp
 rw [e3];have e4 : List.drop (u.length + 1 + v.length) (u ++ v ++ [z]) = [] := by
  rw [List.drop_eq_nil_iff]; simp; omega
 rw [e4, List.append_nil];have e5 : ∃ h, List.take (u.length + 1) (u ++ v ++ [z]) = u ++ [h] := by
  cases v with
  | nil => exact ⟨z, by simp [List.take_append, List.take_of_length_le (Nat.le_succ u.length)]⟩
  | cons h t => exact ⟨h, by simp [List.take_append, List.take_of_length_le (Nat.le_succ u.length)]⟩
 obtain ⟨h, e5⟩ := e5;rw [e5];simp
theorem qtd {l out : List Trust} {t : Trust} (ht : Small t) (ho : ∀ x ∈ out, Small x) (hol : out.length < 1000000) {len : Int} {i0 : Nat} (hi0 : i0 < 4611686018427387904) {P : List Trust → Prop}
  (H : ∀ o, (o = out ∧ t ∈ out ∨ ∃ u v, out = u ++ v ∧ o = u ++ [t] ++ v) → ∃ r, z1x o l len ((i0 + 1 : Nat) : Int) = some r ∧ P r) : ∀ (suf : List Trust) (i k : Nat) (met : Bool), out.drop i = suf → k ≤ out.length → i ≤ out.length → (met = true → t ∈ out) →
  ∃ r, z16 out (k : Int) met l len (i0 : Int) ((out.length : Nat) : Int) (i : Int) t.Threshold t.Nodes t.Inner = some r ∧ P r
 | [], i, k, met, h, hk, hi, hm => by
  cases met with
  | true =>
   obtain ⟨r, r1, r2⟩ := H out (.inl ⟨rfl, hm rfl⟩);refine ⟨r, ?_, r2⟩;apply qpf;rw [q0j h];simp only [cond_false, cond_true];rw [q02 hi0]; exact r1
  | false =>
   have hsp : out = out.take k ++ out.drop k := (List.take_append_drop ..).symm;obtain ⟨r, r1, r2⟩ := H _ (.inr ⟨out.take k, out.drop k, hsp, rfl⟩);refine ⟨r, ?_, r2⟩;apply qpf;rw [q0j h];simp only [cond_false];have hku : (out.take k).length = k := by simp; omega
   have hsz : (out ++ [Trust.mk 0 [] []]).length = out.length + 1 := by simp
   rw [q06 (by simp [q0f]; omega), q02 (show k < 4611686018427387904 by omega)]
   rw [q7l (by omega) (by rw [hsz]; omega), q7l (by omega) (by rw [hsz]; omega)]
   simp only [Int.toNat_natCast];rw [q0q (Nat.le_refl _), q0q (Nat.le_refl _), q02 hi0];have key := y3g (out.take k) (out.drop k) (Trust.mk 0 [] []) (Trust.mk t.Threshold t.Nodes t.Inner);rw [← hsp, hku] at key;have hlen : (List.take (k + 1) (out ++ [Trust.mk 0 [] []]) ++ List.take ((out ++ [Trust.mk 0 [] []]).length - (k + 1)) (List.drop k (List.take (out ++ [Trust.mk 0 [] []]).length (out ++ [Trust.mk 0 [] []]))) ++
     List.drop (k + 1 + min ((out ++ [Trust.mk 0 [] []]).length - (k + 1)) (List.drop k (List.take (out ++ [Trust.mk 0 [] []]).length (out ++ [Trust.mk 0 [] []]))).length) (out ++ [Trust.mk 0 [] []])).length = out.length + 1 := by
    have := congrArg List.length key;rw [List.length_set] at this;rw [this]; simp; omega
   rw [key];have hg := List.getElem?_eq_getElem (show k < _ from by rw [hlen]; omega)
   rw [q0v (by omega) (by rw [Int.toNat_natCast]; exact hg), q39 hg, Trust.eta]
   exact r1
 | y :: suf, i, k, met, h, hk, hi, hm => by
  have hlt := q0i h;have hy : y ∈ out := List.mem_of_mem_drop (by rw [h]; exact List.mem_cons_self)
  have hg : out[i]? = some y := by
   have := congrArg (fun l => l[0]?) h
   simpa using this
  have ih : ∀ (k' : Nat) (met' : Bool), k' ≤ out.length → (met' = true → t ∈ out) → ∃ r, z16 out (k' : Int) met' l len (i0 : Int) ((out.length : Nat) : Int) ((i + 1 : Nat) : Int) t.Threshold t.Nodes t.Inner = some r ∧ P r :=
   fun k' met' h1 h2 => qtd ht ho hol hi0 H suf (i + 1) k' met' (q04 h) h1 (by omega) h2
  have step : ∀ b : Bool, (b = true → t ∈ out) → ∃ r, (bif ltB (tcmp y t) 0 then z16 out ((i + 1 : Nat) : Int) b l len (i0 : Int) ((out.length : Nat) : Int) ((i + 1 : Nat) : Int) t.Threshold t.Nodes t.Inner else z16 out (k : Int) b l len (i0 : Int) ((out.length : Nat) : Int) ((i + 1 : Nat) : Int) t.Threshold t.Nodes t.Inner) = some r ∧ P r := by
   intro b hb;cases ltB (tcmp y t) 0 with
   | true => exact ih (i + 1) b (by omega) hb
   | false => exact ih k b hk hb
  cases met with
  | true =>
   obtain ⟨r, r1, r2⟩ := step true hm;refine ⟨r, ?_, r2⟩;apply qpf;rw [q0a h];simp only [cond_true];rw [q08 h, Int.toNat_natCast, q39 hg, Trust.eta, qph y (ho y hy) t ht];simp only [Option.bind_some];rw [q02 (by omega)]
   exact r1
  | false =>
   obtain ⟨r, r1, r2⟩ := step (eqB (tcmp y t) 0) (fun hb => by rw [y3n] at hb; rw [← (qtv y t).1 hb]; exact hy)
   refine ⟨r, ?_, r2⟩;apply qpf;rw [q0a h];simp only [cond_true, cond_false];rw [q08 h, Int.toNat_natCast, q39 hg, Trust.eta, qph y (ho y hy) t ht];simp only [Option.bind_some];rw [q02 (by omega)]
   exact r1
theorem qv1 {l : List Trust} (hl : l.length < 1000000) (hs : ∀ x ∈ l, Small x) : ∀ (suf pre out : List Trust), l = pre ++ suf → out.length ≤ pre.length → (∀ y, y ∈ out ↔ y ∈ pre) →
  ∃ r, z1x out l ((l.length : Nat) : Int) ((pre.length : Nat) : Int) = some r ∧ (r.length ≤ l.length ∧ ∀ y, y ∈ r ↔ y ∈ l)
 | [], pre, out, e, ho, hm => by
  rw [List.append_nil] at e;subst e;refine ⟨out, ?_, ho, hm⟩;apply qzd;rw [q00 (Int.le_refl _)]; rfl
 | t :: suf, pre, out, e, ho, hm => by
  have hd : l.drop pre.length = t :: suf := by rw [e]; simp
  have hlt := q0i hd;have ht : t ∈ l := by rw [e]; simp
  have hsub : ∀ y ∈ pre, y ∈ l := fun y hy => by rw [e]; simp [hy]
  have key := qtd (l := l) (out := out) (t := t) (hs t ht) (fun x hx => hs x (hsub x ((hm x).1 hx))) (by omega) (len := ((l.length : Nat) : Int)) (i0 := pre.length) (by omega) (P := fun r => r.length ≤ l.length ∧ ∀ y, y ∈ r ↔ y ∈ l)
   (fun o hoo => by
    have := qv1 hl hs suf (pre ++ [t]) o (by rw [e]; simp) (by
     rcases hoo with ⟨rfl, _⟩ | ⟨u, v, e1, rfl⟩
     ·simp; omega
     ·rw [e1] at ho; simp at ho ⊢; omega) (fun y => by
     rcases hoo with ⟨rfl, h1⟩ | ⟨u, v, e1, rfl⟩
     ·have h2 := (hm t).1 h1;rw [hm y]; simp;intro e2; rw [e2]; exact h2
     ·have := hm y;rw [e1] at this;simp only [List.mem_append, List.mem_singleton] at this ⊢;rw [← this];constructor
      ·rintro ((h | h) | h)
       ·exact .inl (.inl h)
       ·exact .inr h
       ·exact .inl (.inr h)
      ·rintro ((h | h) | h)
       ·exact .inl (.inl h)
       ·exact .inr h
       ·exact .inl (.inr h))
    simpa using this) out 0 0 false rfl (by omega) (by omega) (fun h => by cases h)
  obtain ⟨r, r1, r2⟩ := key;refine ⟨r, ?_, r2⟩;apply qzd;rw [q0a hd];simp only [cond_true, q08 hd];exact r1
noncomputable def diffs (l : List Trust) : List Trust := (z40 l).getD []
theorem qr9 {l : List Trust} (hl : l.length < 1000000) (hs : ∀ x ∈ l, Small x) : z40 l = some (diffs l) ∧ (diffs l).length ≤ l.length ∧ ∀ y, y ∈ diffs l ↔ y ∈ l := by
 obtain ⟨r, r1, r2⟩ := qv1 hl hs l [] [] rfl (by simp) (by simp)
 have : z40 l = some r := by
  apply y3w;exact r1
 have hd : diffs l = r := by unfold diffs; rw [this]; rfl
 rw [hd];exact ⟨this, r2⟩
def memJ (all : Bool) : List Trust → Member
 | [] => ⟨false, blank⟩
 | [x] => ⟨true, x⟩
 | d => ⟨true, ⟨if all then ((d.length : Nat) : Int) else 1, [], d⟩⟩
def verrs : List Trust → Int
 | [] => 0
 | t :: r => if verr t = 0 then verrs r else verr t
theorem qi8 : ∀ {l : List Trust}, verrs l = 0 ↔ ∀ x ∈ l, valid x = true
 | [] => by simp [verrs]
 | t :: r => by
  unfold verrs;by_cases h : verr t = 0
  ·rw [if_pos h, qi8]; simp [(q6w t).1 h]
  ·rw [if_neg h];have : valid t ≠ true := fun e => h ((q6w t).2 e)
   simp [h, this]
noncomputable def listE (x : List Trust) : Int := if verrs x = 0 then (if 4 < (diffs x).length then 3 else 0) else verrs x
noncomputable def qad : List (List Trust) → Int
 | [] => 0
 | x :: r => if listE x = 0 then qad r else listE x
noncomputable def joinC (all : Bool) (l : List (List Trust)) : Config := ⟨l.map fun x => memJ all (diffs x)⟩
noncomputable def joinE (all : Bool) (l : List (List Trust)) : Int := if 10 < l.length then 3 else if qad l = 0 then cerr (joinC all l) else qad l
noncomputable def joinR (all : Bool) (l : List (List Trust)) : Config × Int := if joinE all l = 0 then (joinC all l, 0) else (⟨[]⟩, joinE all l)
theorem qr6 {b : Nat} : ∀ {l : List Trust}, (∀ x ∈ l, size x ≤ b) → sizes l ≤ l.length * b
 | [], _ => by simp [sizes]
 | x :: r, h => by
  have h1 := h x (by simp)
  have h2 := qr6 (l := r) (fun y hy => h y (by simp [hy]))
  simp only [sizes, List.length_cons, Nat.succ_mul]; omega
theorem qsc {all : Bool} {d : List Trust} (hd : d.length ≤ 4) (hv : ∀ x ∈ d, valid x = true) : Small (memJ all d).Trust := by
 match d, hd, hv with
 | [], _, _ => unfold Small; simp [memJ, blank, size, sizes]
 | [x], _, hv => exact q2z (hv x (by simp))
 | x :: y :: r, hd, hv =>
  have := qr6 (b := 200) (l := x :: y :: r) (fun z hz => qd3 (hv z hz))
  unfold Small memJ;rw [q1a];simp only [List.length_nil] at *;omega
def qld (l : List (List Trust)) : Prop := ∀ x ∈ l, x.length < 1000000 ∧ ∀ y ∈ x, Small y
theorem qto {all : Bool} {l : List (List Trust)} {x : List Trust} (hx : x.length < 1000000 ∧ ∀ y ∈ x, Small y) {acc dummy : List Member} (ha : acc.length < 1000) {i0 : Nat} (hi0 : i0 < 1000000) {r : Config × Int} {len : Int}
  (K : listE x = 0 → z1u all l len ((i0 + 1 : Nat) : Int) dummy (acc ++ [memJ all (diffs x)]) = some r) (Ke : listE x ≠ 0 → r = (⟨[]⟩, listE x)) : ∀ (suf : List Trust) (i : Nat), x.drop i = suf → (verrs suf = verrs x) →
  z3z all x l len (i0 : Int) x ((x.length : Nat) : Int) (i : Int) dummy acc = some r
 | [], i, h, hv => by
  have hz : verrs x = 0 := by rw [← hv]; rfl
  obtain ⟨d1, d2, d3⟩ := qr9 hx.1 hx.2;apply y0p;rw [q0j h];simp only [cond_false];rw [d1];simp only [Option.bind_some];by_cases h4 : 4 < (diffs x).length
  ·have he : listE x = 3 := by unfold listE; rw [if_pos hz, if_pos h4]
   rw [q03 (by omega), Ke (by rw [he]; decide), he]; rfl
  ·have he : listE x = 0 := by unfold listE; rw [if_pos hz, if_neg h4]
   have K' := K he;rw [q00 (by omega), q02 (by omega)]
   simp only [cond_false];match hd : diffs x with
   | [] =>
    rw [hd] at K';rw [q0t (by simp), q00 (by simp)]
    simp only [cond_false];rw [q06 (by simp [q0f]; omega)]
    exact K'
   | [y] =>
    rw [hd] at K';rw [show eqB (([y].length : Nat) : Int) 1 = true from by simp [eqB]]
    simp only [cond_true];rw [q0v (xs := [y]) (n := 0) (y := y) (by decide) rfl, q06 (by simp [q0f]; omega)]
    simp only [Trust.eta];exact K'
   | y :: z :: d =>
    rw [hd] at K';have hn : (y :: z :: d).length = d.length + 2 := rfl;rw [q0t (by rw [hn]; omega), q03 (by rw [hn]; omega)]
    simp only [cond_false, cond_true];cases all with
    | true =>
     simp only [cond_true];rw [q06 (by simp [q0f]; omega)]
     exact K'
    | false =>
     simp only [cond_false];rw [q06 (by simp [q0f]; omega)]
     exact K'
 | t :: suf, i, h, hv => by
  have hlt := q0i h;have ht : t ∈ x := List.mem_of_mem_drop (by rw [h]; exact List.mem_cons_self)
  apply y0p;rw [q0a h];simp only [cond_true, q08 h];rw [qqw t (hx.2 t ht)];simp only [Option.bind_some];by_cases h0 : verr t = 0
  ·have hv' : verrs suf = verrs x := by rw [← hv]; simp [verrs, h0]
   rw [h0, q0d, q02 (by omega)]
   exact qto hx ha hi0 K Ke suf (i + 1) (q04 h) hv'
  ·have hv' : verrs x = verr t := by rw [← hv]; simp [verrs, h0]
   have he : listE x = verr t := by unfold listE; rw [if_neg (by rw [hv']; exact h0), hv']
   rw [q0s h0, Ke (by rw [he]; exact h0), he]; rfl
theorem quj {all : Bool} {l : List (List Trust)} (hl : l.length ≤ 10) (hs : qld l) {dummy : List Member} : ∀ (suf pre : List (List Trust)), l = pre ++ suf → qad suf = qad l → (∀ x ∈ pre, listE x = 0) →
  z1u all l ((l.length : Nat) : Int) ((pre.length : Nat) : Int) dummy (pre.map fun x => memJ all (diffs x)) = some (joinR all l)
 | [], pre, e, he, hp => by
  rw [List.append_nil] at e;subst e;have h0 : qad l = 0 := by rw [← he]; rfl
  have hsm : q0l (joinC all l) := ⟨by unfold joinC; simp only [List.length_map]; omega, fun m hm => by
   unfold joinC at hm;obtain ⟨x, hx, rfl⟩ := List.mem_map.1 hm;have h1 := hp x hx;unfold listE at h1;by_cases hv : verrs x = 0
   ·rw [if_pos hv] at h1;obtain ⟨d1, d2, d3⟩ := qr9 (hs x hx).1 (hs x hx).2;have h4 : (diffs x).length ≤ 4 := by
     by_cases h4 : 4 < (diffs x).length
     ·rw [if_pos h4] at h1; cases h1
     ·omega
    exact qsc h4 (fun y hy => qi8.1 hv y ((d3 y).1 hy))
   ·rw [if_neg hv] at h1; exact absurd h1 hv⟩
  have hE : joinE all l = cerr (joinC all l) := by unfold joinE; rw [if_neg (by omega), if_pos h0]
  apply qzr;rw [q00 (Int.le_refl _)];simp only [cond_false];rw [show Config.mk (l.map fun x => memJ all (diffs x)) = joinC all l from rfl, q7a hsm]
  simp only [Option.bind_some];unfold joinR;rw [hE];by_cases hc : cerr (joinC all l) = 0
  ·rw [hc, q0d]; rfl
  ·rw [q0s hc, if_neg hc]; rfl
 | x :: suf, pre, e, he, hp => by
  have hd : l.drop pre.length = x :: suf := by rw [e]; simp
  have hlt := q0i hd;have hx : x ∈ l := by rw [e]; simp
  apply qzr;rw [q0a hd];simp only [cond_true, q08 hd];refine qto (hs x hx) (by simp; omega) (by omega) (fun h0 => ?_) (fun h0 => ?_) x 0 rfl rfl
  ·have := quj (all := all) hl hs (dummy := dummy) suf (pre ++ [x]) (by rw [e]; simp) (by rw [← he]; simp [qad, h0]) (fun y hy => by
    rcases List.mem_append.1 hy with hy | hy
    ·exact hp y hy
    ·rw [List.mem_singleton.1 hy]; exact h0)
   simpa using this
  ·have h1 : qad l = listE x := by rw [← he]; simp [qad, h0]
   have hE : joinE all l = listE x := by unfold joinE; rw [if_neg (by omega : ¬ 10 < l.length), if_neg (by rw [h1]; exact h0), h1]
   unfold joinR;rw [hE, if_neg h0]
theorem qkv {all : Bool} {l : List (List Trust)} (hs : qld l) (hl : l.length < 1000000) : z5l l all = some (joinR all l) := by
 apply y4p;by_cases h : 10 < l.length
 ·rw [q03 (by omega)]
  unfold joinR joinE;rw [if_pos h]; rfl
 ·rw [q00 (by omega)]
  exact quj (by omega) hs l [] rfl rfl (by simp)
theorem y2i {l : List (List Trust)} (hs : qld l) (hl : l.length < 1000000) : z6p l = some (joinR false l) := by
 apply y3q;rw [qkv hs hl]; rfl
theorem qys {l : List (List Trust)} (hs : qld l) (hl : l.length < 1000000) : z6i l = some (joinR true l) := by
 apply y4k;rw [qkv hs hl]; rfl
end Go.Proofs.YtbmelgbadedbbaaGreat
