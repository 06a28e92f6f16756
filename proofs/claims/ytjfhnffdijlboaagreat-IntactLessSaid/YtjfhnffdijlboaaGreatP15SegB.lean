/- Laws of the printed functions. -/
import Derived.Test.YtjfhnffdijlboaaGreatP15SegA
import Derived.Test.YtjfhnffdijlboaaGreatRows
import Derived.ProofKit
import Derived.LaidMore
import Derived.OpenShut
import Derived.Stop.Joined
namespace Go.Proofs.YtjfhnffdijlboaaGreat
open Go Go.Ab Go.Sort
def lexI : List Int → List Int → Int
 | [], [] => 0
 | [], _ :: _ => -1
 | _ :: _, [] => 1
 | x :: xs, y :: ys => if cmpI x y ≠ 0 then cmpI x y else lexI xs ys
mutual
def tcmp : Trust → Trust → Int
 | ⟨a, xs, ts⟩, ⟨b, ys, us⟩ => if cmpI a b ≠ 0 then cmpI a b else if lexI xs ys ≠ 0 then lexI xs ys else tcmps ts us
def tcmps : List Trust → List Trust → Int
 | [], [] => 0
 | [], _ :: _ => -1
 | _ :: _, [] => 1
 | t :: ts, u :: us => if tcmp t u ≠ 0 then tcmp t u else tcmps ts us
end
theorem qva (t u : Trust) : tcmp t u = if cmpI t.Threshold u.Threshold ≠ 0 then cmpI t.Threshold u.Threshold else if lexI t.Nodes u.Nodes ≠ 0 then lexI t.Nodes u.Nodes else tcmps t.Inner u.Inner := by
 cases t; cases u; simp only [tcmp]
theorem q9m {a b : Int} : cmpI a b = 0 ↔ a = b := by
 unfold cmpI; split
 ·simp; omega
 ·split
  ·simp; omega
  ·simp; omega
theorem qgk : ∀ {a b : List Int}, lexI a b = 0 ↔ a = b
 | [], [] => by simp [lexI]
 | [], _ :: _ => by simp [lexI]
 | _ :: _, [] => by simp [lexI]
 | x :: xs, y :: ys => by
  unfold lexI;by_cases h : cmpI x y = 0
  ·rw [if_neg (by simp [h]), qgk, q9m.1 h]; simp
  ·rw [if_pos h];have : x ≠ y := fun e => h (q9m.2 e)
   simp [h, this]
theorem qvy : ∀ a b : Trust, tcmp a b = 0 ↔ a = b := by
 apply Trust.ind;intro a ih b;have l : ∀ ts : List Trust, (∀ x ∈ ts, ∀ b, tcmp x b = 0 ↔ x = b) → ∀ us : List Trust, tcmps ts us = 0 ↔ ts = us := by
  intro ts;induction ts with
  | nil => intro _ us; cases us <;> simp [tcmps]
  | cons t ts iht =>
   intro h us;cases us with
   | nil => simp [tcmps]
   | cons u us =>
    unfold tcmps;by_cases h0 : tcmp t u = 0
    ·rw [if_neg (by simp [h0]), iht (fun x hx => h x (by simp [hx])), (h t (by simp) u).1 h0]; simp
    ·rw [if_pos h0];have : t ≠ u := fun e => h0 ((h t (by simp) u).2 e)
     simp [h0, this]
 rw [qva];obtain ⟨ta, na, ia⟩ := a;obtain ⟨tb, nb, ib⟩ := b;simp only [Trust.mk.injEq];by_cases h1 : cmpI ta tb = 0
 ·rw [if_neg (by simp [h1])];by_cases h2 : lexI na nb = 0
  ·rw [if_neg (by simp [h2]), l ia ih ib, q9m.1 h1, qgk.1 h2]; simp
  ·rw [if_pos h2];have : na ≠ nb := fun e => h2 (qgk.2 e)
   simp [h2, this]
 ·rw [if_pos h1];have : ta ≠ tb := fun e => h1 (q9m.2 e)
  simp [h1, this]
theorem q6i (a b : Int) : z4n a b = some (cmpI a b) := by
 apply y6c;unfold cmpI;by_cases h : a < b
 ·rw [q03 h, if_pos h]; rfl
 ·rw [q00 (by omega), if_neg h];by_cases h2 : b < a
  ·rw [q03 h2, if_pos h2]; rfl
  ·rw [q00 (by omega), if_neg h2]; rfl
theorem qrj {α : Type} {xs ys : List α} {i : Nat} (h1 : xs.drop i = []) (h2 : ys.drop i = []) (l1 : i ≤ xs.length) (l2 : i ≤ ys.length) : cmpI ((xs.length : Nat) : Int) ((ys.length : Nat) : Int) = 0 := by
 have := List.drop_eq_nil_iff.1 h1; have := List.drop_eq_nil_iff.1 h2;exact q9m.2 (by omega)
theorem qs4 {a b : Int} (h : a < b) : cmpI a b = -1 := by unfold cmpI; rw [if_pos h]
theorem qr5 {a b : Int} (h : b < a) : cmpI a b = 1 := by unfold cmpI; rw [if_neg (by omega), if_pos h]
theorem qrq {xs ys : List Int} (hx : xs.length < 1152921504606846976) {t u : Int} {ts us : List Trust} (K : z1q 0 t xs ts u ys us = some (tcmps ts us)) : ∀ (sx sy : List Int) (i : Nat), xs.drop i = sx → ys.drop i = sy → i ≤ xs.length → i ≤ ys.length →
  z2n (i : Int) t xs ts u ys us = some (if lexI sx sy ≠ 0 then lexI sx sy else tcmps ts us)
 | [], [], i, h1, h2, l1, l2 => by
  apply qq8;rw [q0k h1, q6i, qrj h1 h2 l1 l2];simp only [cF, bS, q08];rw [K]; rfl
 | [], y :: sy, i, h1, h2, l1, l2 => by
  have h3 := q0h h2;have := List.drop_eq_nil_iff.1 h1;apply qq8;rw [q0k h1, q6i, qs4 (by omega)];rfl
 | x :: sx, [], i, h1, h2, l1, l2 => by
  have h3 := q0h h1;have := List.drop_eq_nil_iff.1 h2;apply qq8;rw [q09 h1, q0k h2, q6i, qr5 (by omega)];rfl
 | x :: sx, y :: sy, i, h1, h2, l1, l2 => by
  have h3 := q0h h1;have h4 := q0h h2;have ih := qrq hx K sx sy (i + 1) (q05 h1) (q05 h2) (by omega) (by omega);apply qq8;rw [q09 h1, q09 h2];simp only [cT, q07 h1, q07 h2];rw [q6i];simp only [bS];by_cases h : cmpI x y = 0
  ·rw [h, q08, q02 (by omega), ih];simp only [cF, lexI, h, ne_eq, not_true, if_false]
  ·rw [q0p h];simp only [cT, lexI, if_pos h]
theorem qr1 : ∀ a : Trust, Small a → ∀ b : Trust, Small b → z5m a b = some (tcmp a b) := by
 apply Trust.ind;intro a ih ha b hb;have hna := ha.nodes;have hia := ha.inner;have l2 : ∀ (st su : List Trust) (i : Nat), a.Inner.drop i = st → b.Inner.drop i = su → i ≤ a.Inner.length → i ≤ b.Inner.length →
   z1q (i : Int) a.Threshold a.Nodes a.Inner b.Threshold b.Nodes b.Inner = some (tcmps st su) := by
  intro st;induction st with
  | nil =>
   intro su i h1 h2 l1 l2;cases su with
   | nil =>
    apply qqk;rw [q0k h1, q6i, qrj h1 h2 l1 l2]; rfl
   | cons u su =>
    have h3 := q0h h2;have := List.drop_eq_nil_iff.1 h1;apply qqk;rw [q0k h1, q6i, qs4 (by omega)]; rfl
  | cons t st iht =>
   intro su i h1 h2 l1 l2;have h3 := q0h h1;cases su with
   | nil =>
    have := List.drop_eq_nil_iff.1 h2;apply qqk;rw [q09 h1, q0k h2, q6i, qr5 (by omega)]; rfl
   | cons u su =>
    have h4 := q0h h2;have ht : t ∈ a.Inner := List.mem_of_mem_drop (by rw [h1]; exact List.mem_cons_self);have hu : u ∈ b.Inner := List.mem_of_mem_drop (by rw [h2]; exact List.mem_cons_self);have ih' := iht su (i + 1) (q05 h1) (q05 h2) (by omega) (by omega);apply qqk;rw [q09 h1, q09 h2];simp only [cT, q07 h1, q07 h2];rw [ih t ht (ha.mem ht) u (hb.mem hu)];simp only [bS];by_cases h : tcmp t u = 0
    ·rw [h, q08, q02 (by omega), ih'];simp only [cF, tcmps, h, ne_eq, not_true, if_false]
    ·rw [q0p h];simp only [cT, tcmps, if_pos h]
 have l1 := qrq (ys := b.Nodes) hna (l2 a.Inner b.Inner 0 rfl rfl (by omega) (by omega)) a.Nodes b.Nodes 0 rfl rfl (by omega) (by omega);rw [qva];apply y83;rw [q6i];simp only [bS];by_cases h : cmpI a.Threshold b.Threshold = 0
 ·rw [h, q08];simp only [cF, ne_eq, not_true, if_false];exact l1
 ·rw [q0p h, if_pos h]; rfl
theorem y49 {α : Type} (u v : List α) (z x : α) :
  List.set (List.take (u.length + 1) (u ++ v ++ [z]) ++ List.take ((u ++ v ++ [z]).length - (u.length + 1)) (List.drop u.length (List.take (u ++ v ++ [z]).length (u ++ v ++ [z]))) ++
   List.drop (u.length + 1 + min ((u ++ v ++ [z]).length - (u.length + 1)) (List.drop u.length (List.take (u ++ v ++ [z]).length (u ++ v ++ [z]))).length) (u ++ v ++ [z])) u.length x = u ++ [x] ++ v := by
 rw [List.take_length];have e1 : List.drop u.length (u ++ v ++ [z]) = v ++ [z] := by rw [List.append_assoc, List.drop_left]
 rw [e1];have e2 : (u ++ v ++ [z]).length - (u.length + 1) = v.length := by simp; omega
 rw [e2, List.take_left];have e3 : min v.length (v ++ [z]).length = v.length := by simp
 rw [e3];have e4 : List.drop (u.length + 1 + v.length) (u ++ v ++ [z]) = [] := by
  rw [List.drop_eq_nil_iff]; simp; omega
 rw [e4, List.append_nil];have e5 : ∃ h, List.take (u.length + 1) (u ++ v ++ [z]) = u ++ [h] := by
  cases v with
  | nil => exact ⟨z, by simp [List.take_append, List.take_of_length_le (Nat.le_succ u.length)]⟩
  | cons h t => exact ⟨h, by simp [List.take_append, List.take_of_length_le (Nat.le_succ u.length)]⟩
 obtain ⟨h, e5⟩ := e5;rw [e5];simp
theorem qxl {l out : List Trust} {t : Trust} (ht : Small t) (ho : ∀ x ∈ out, Small x) (hol : out.length < 1000000) {len : Int} {i0 : Nat} (hi0 : i0 < 4611686018427387904) {P : List Trust → Prop}
  (H : ∀ o, (o = out ∧ t ∈ out ∨ ∃ u v, out = u ++ v ∧ o = u ++ [t] ++ v) → ∃ r, z21 o l len ((i0 + 1 : Nat) : Int) = some r ∧ P r) : ∀ (suf : List Trust) (i k : Nat) (met : Bool), out.drop i = suf → k ≤ out.length → i ≤ out.length → (met = true → t ∈ out) →
  ∃ r, z14 out (k : Int) met l len (i0 : Int) ((out.length : Nat) : Int) (i : Int) t.Threshold t.Nodes t.Inner = some r ∧ P r
 | [], i, k, met, h, hk, hi, hm => by
  cases met with
  | true =>
   obtain ⟨r, r1, r2⟩ := H out (.inl ⟨rfl, hm rfl⟩);refine ⟨r, ?_, r2⟩;apply qrc;rw [q0k h];simp only [cF, cT];rw [q02 hi0]; exact r1
  | false =>
   have hsp : out = out.take k ++ out.drop k := (List.take_append_drop ..).symm;obtain ⟨r, r1, r2⟩ := H _ (.inr ⟨out.take k, out.drop k, hsp, rfl⟩);refine ⟨r, ?_, r2⟩;apply qrc;rw [q0k h];simp only [cF];have hku : (out.take k).length = k := by simp; omega
   have hsz : (out ++ [Trust.mk 0 [] []]).length = out.length + 1 := by simp
   rw [q0d (by simp [q0j]; omega), q02 (show k < 4611686018427387904 by omega)];rw [qam (by omega) (by rw [hsz]; omega), qam (by omega) (by rw [hsz]; omega)];simp only [tN];rw [q0l (Nat.le_refl _), q0l (Nat.le_refl _), q02 hi0];have key := y49 (out.take k) (out.drop k) (Trust.mk 0 [] []) (Trust.mk t.Threshold t.Nodes t.Inner);rw [← hsp, hku] at key;have hlen : (List.take (k + 1) (out ++ [Trust.mk 0 [] []]) ++ List.take ((out ++ [Trust.mk 0 [] []]).length - (k + 1)) (List.drop k (List.take (out ++ [Trust.mk 0 [] []]).length (out ++ [Trust.mk 0 [] []]))) ++
     List.drop (k + 1 + min ((out ++ [Trust.mk 0 [] []]).length - (k + 1)) (List.drop k (List.take (out ++ [Trust.mk 0 [] []]).length (out ++ [Trust.mk 0 [] []]))).length) (out ++ [Trust.mk 0 [] []])).length = out.length + 1 := by
    have := congrArg List.length key;rw [List.length_set] at this;rw [this]; simp; omega
   rw [key];have hg := List.getElem?_eq_getElem (show k < _ from by rw [hlen]; omega);rw [q15 (by omega) (by rw [tN]; exact hg), q5k hg, Trust.eta];exact r1
 | y :: suf, i, k, met, h, hk, hi, hm => by
  have hlt := q0h h;have hy : y ∈ out := List.mem_of_mem_drop (by rw [h]; exact List.mem_cons_self);have hg : out[i]? = some y := by
   have := congrArg (fun l => l[0]?) h;simpa using this
  have ih : ∀ (k' : Nat) (met' : Bool), k' ≤ out.length → (met' = true → t ∈ out) → ∃ r, z14 out (k' : Int) met' l len (i0 : Int) ((out.length : Nat) : Int) ((i + 1 : Nat) : Int) t.Threshold t.Nodes t.Inner = some r ∧ P r :=
   fun k' met' h1 h2 => qxl ht ho hol hi0 H suf (i + 1) k' met' (q05 h) h1 (by omega) h2
  have step : ∀ b : Bool, (b = true → t ∈ out) → ∃ r, (bif ltB (tcmp y t) 0 then z14 out ((i + 1 : Nat) : Int) b l len (i0 : Int) ((out.length : Nat) : Int) ((i + 1 : Nat) : Int) t.Threshold t.Nodes t.Inner else z14 out (k : Int) b l len (i0 : Int) ((out.length : Nat) : Int) ((i + 1 : Nat) : Int) t.Threshold t.Nodes t.Inner) = some r ∧ P r := by
   intro b hb;cases ltB (tcmp y t) 0 with
   | true => exact ih (i + 1) b (by omega) hb
   | false => exact ih k b hk hb
  cases met with
  | true =>
   obtain ⟨r, r1, r2⟩ := step true hm;refine ⟨r, ?_, r2⟩;apply qrc;rw [q09 h];simp only [cT];rw [q07 h, tN, q5k hg, Trust.eta, qr1 y (ho y hy) t ht];simp only [bS];rw [q02 (by omega)];exact r1
  | false =>
   obtain ⟨r, r1, r2⟩ := step (eqB (tcmp y t) 0) (fun hb => by rw [y4f] at hb; rw [← (qvy y t).1 hb]; exact hy);refine ⟨r, ?_, r2⟩;apply qrc;rw [q09 h];simp only [cT, cF];rw [q07 h, tN, q5k hg, Trust.eta, qr1 y (ho y hy) t ht];simp only [bS];rw [q02 (by omega)];exact r1
theorem qul {l : List Trust} (hl : l.length < 1000000) (hs : ∀ x ∈ l, Small x) : ∀ (suf pre out : List Trust), l = pre ++ suf → out.length ≤ pre.length → (∀ y, y ∈ out ↔ y ∈ pre) →
  ∃ r, z21 out l ((l.length : Nat) : Int) ((pre.length : Nat) : Int) = some r ∧ (r.length ≤ l.length ∧ ∀ y, y ∈ r ↔ y ∈ l)
 | [], pre, out, e, ho, hm => by
  rw [List.append_nil] at e;subst e;refine ⟨out, ?_, ho, hm⟩;apply y23;rw [q00 (Int.le_refl _)]; rfl
 | t :: suf, pre, out, e, ho, hm => by
  have hd : l.drop pre.length = t :: suf := by rw [e]; simp
  have hlt := q0h hd;have ht : t ∈ l := by rw [e]; simp
  have hsub : ∀ y ∈ pre, y ∈ l := fun y hy => by rw [e]; simp [hy]
  have key := qxl (l := l) (out := out) (t := t) (hs t ht) (fun x hx => hs x (hsub x ((hm x).1 hx))) (by omega) (len := ((l.length : Nat) : Int)) (i0 := pre.length) (by omega) (P := fun r => r.length ≤ l.length ∧ ∀ y, y ∈ r ↔ y ∈ l)
   (fun o hoo => by
    have := qul hl hs suf (pre ++ [t]) o (by rw [e]; simp) (by
     rcases hoo with ⟨rfl, _⟩ | ⟨u, v, e1, rfl⟩
     ·simp; omega
     ·rw [e1] at ho; simp at ho ⊢; omega) (fun y => by
     rcases hoo with ⟨rfl, h1⟩ | ⟨u, v, e1, rfl⟩
     ·have h2 := (hm t).1 h1;rw [hm y]; simp;intro e2; rw [e2]; exact h2
     ·have := hm y;rw [e1] at this;simp only [List.mem_append, List.mem_singleton] at this ⊢;rw [← this];constructor
      ·rintro ((h | h) | h)
       ·exact .inl (.inl h)
       ·exact .inr h
       ·exact .inl (.inr h)
      ·rintro ((h | h) | h)
       ·exact .inl (.inl h)
       ·exact .inr h
       ·exact .inl (.inr h))
    simpa using this) out 0 0 false rfl (by omega) (by omega) (fun h => by cases h)
  obtain ⟨r, r1, r2⟩ := key;refine ⟨r, ?_, r2⟩;apply y23;rw [q09 hd];simp only [cT, q07 hd];exact r1
noncomputable def diffs (l : List Trust) : List Trust := (z43 l).getD []
theorem qr8 {l : List Trust} (hl : l.length < 1000000) (hs : ∀ x ∈ l, Small x) : z43 l = some (diffs l) ∧ (diffs l).length ≤ l.length ∧ ∀ y, y ∈ diffs l ↔ y ∈ l := by
 obtain ⟨r, r1, r2⟩ := qul hl hs l [] [] rfl (by simp) (by simp);have : z43 l = some r := by
  apply y5z;exact r1
 have hd : diffs l = r := by unfold diffs; rw [this]; rfl
 rw [hd];exact ⟨this, r2⟩
def memJ (all : Bool) : List Trust → Member
 | [] => ⟨false, blank⟩
 | [x] => ⟨true, x⟩
 | d => ⟨true, ⟨if all then ((d.length : Nat) : Int) else 1, [], d⟩⟩
def verrs : List Trust → Int
 | [] => 0
 | t :: r => if verr t = 0 then verrs r else verr t
theorem qiz : ∀ {l : List Trust}, verrs l = 0 ↔ ∀ x ∈ l, valid x = true
 | [] => by simp [verrs]
 | t :: r => by
  unfold verrs;by_cases h : verr t = 0
  ·rw [if_pos h, qiz]; simp [(q73 t).1 h]
  ·rw [if_neg h];have : valid t ≠ true := fun e => h ((q73 t).2 e)
   simp [h, this]
noncomputable def listE (x : List Trust) : Int := if verrs x = 0 then (if 4 < (diffs x).length then 3 else 0) else verrs x
noncomputable def qb2 : List (List Trust) → Int
 | [] => 0
 | x :: r => if listE x = 0 then qb2 r else listE x
noncomputable def joinC (all : Bool) (l : List (List Trust)) : Config := ⟨l.map fun x => memJ all (diffs x)⟩
noncomputable def joinE (all : Bool) (l : List (List Trust)) : Int := if 10 < l.length then 3 else if qb2 l = 0 then cerr (joinC all l) else qb2 l
noncomputable def joinR (all : Bool) (l : List (List Trust)) : Config × Int := if joinE all l = 0 then (joinC all l, 0) else (⟨[]⟩, joinE all l)
theorem qsm {b : Nat} : ∀ {l : List Trust}, (∀ x ∈ l, size x ≤ b) → sizes l ≤ l.length * b
 | [], _ => by simp [sizes]
 | x :: r, h => by
  have h1 := h x (by simp);have h2 := qsm (l := r) (fun y hy => h y (by simp [hy]));simp only [sizes, List.length_cons, Nat.succ_mul]; omega
theorem qto {all : Bool} {d : List Trust} (hd : d.length ≤ 4) (hv : ∀ x ∈ d, valid x = true) : Small (memJ all d).Trust := by
 match d, hd, hv with
 | [], _, _ => unfold Small; simp [memJ, blank, size, sizes]
 | [x], _, hv => exact q3g (hv x (by simp))
 | x :: y :: r, hd, hv =>
  have := qsm (b := 200) (l := x :: y :: r) (fun z hz => qj1 (hv z hz));unfold Small memJ;rw [q2s];simp only [List.length_nil] at *;omega
def qnh (l : List (List Trust)) : Prop := ∀ x ∈ l, x.length < 1000000 ∧ ∀ y ∈ x, Small y
theorem qvp {all : Bool} {l : List (List Trust)} {x : List Trust} (hx : x.length < 1000000 ∧ ∀ y ∈ x, Small y) {acc dummy : List Member} (ha : acc.length < 1000) {i0 : Nat} (hi0 : i0 < 1000000) {r : Config × Int} {len : Int}
  (K : listE x = 0 → z1y all l len ((i0 + 1 : Nat) : Int) dummy (acc ++ [memJ all (diffs x)]) = some r) (Ke : listE x ≠ 0 → r = (⟨[]⟩, listE x)) : ∀ (suf : List Trust) (i : Nat), x.drop i = suf → (verrs suf = verrs x) →
  z42 all x l len (i0 : Int) x ((x.length : Nat) : Int) (i : Int) dummy acc = some r
 | [], i, h, hv => by
  have hz : verrs x = 0 := by rw [← hv]; rfl
  obtain ⟨d1, d2, d3⟩ := qr8 hx.1 hx.2;apply y32;rw [q0k h];simp only [cF];rw [d1];simp only [bS];by_cases h4 : 4 < (diffs x).length
  ·have he : listE x = 3 := by unfold listE; rw [if_pos hz, if_pos h4]
   rw [q03 (by omega), Ke (by rw [he]; decide), he]; rfl
  ·have he : listE x = 0 := by unfold listE; rw [if_pos hz, if_neg h4]
   have K' := K he;rw [q00 (by omega), q02 (by omega)];simp only [cF];match hd : diffs x with
   | [] =>
    rw [hd] at K';rw [q13 (by simp), q00 (by simp)];simp only [cF];rw [q0d (by simp [q0j]; omega)];exact K'
   | [y] =>
    rw [hd] at K';rw [show eqB (([y].length : Nat) : Int) 1 = true from by simp [eqB]];simp only [cT];rw [q15 (xs := [y]) (n := 0) (y := y) (by decide) rfl, q0d (by simp [q0j]; omega)];simp only [Trust.eta];exact K'
   | y :: z :: d =>
    rw [hd] at K';have hn : (y :: z :: d).length = d.length + 2 := rfl;rw [q13 (by rw [hn]; omega), q03 (by rw [hn]; omega)];simp only [cF, cT];cases all with
    | true =>
     simp only [cT];rw [q0d (by simp [q0j]; omega)];exact K'
    | false =>
     simp only [cF];rw [q0d (by simp [q0j]; omega)];exact K'
 | t :: suf, i, h, hv => by
  have hlt := q0h h;have ht : t ∈ x := List.mem_of_mem_drop (by rw [h]; exact List.mem_cons_self);apply y32;rw [q09 h];simp only [cT, q07 h];rw [qsh t (hx.2 t ht)];simp only [bS];by_cases h0 : verr t = 0
  ·have hv' : verrs suf = verrs x := by rw [← hv]; simp [verrs, h0]
   rw [h0, q08, q02 (by omega)];exact qvp hx ha hi0 K Ke suf (i + 1) (q05 h) hv'
  ·have hv' : verrs x = verr t := by rw [← hv]; simp [verrs, h0]
   have he : listE x = verr t := by unfold listE; rw [if_neg (by rw [hv']; exact h0), hv']
   rw [q0p h0, Ke (by rw [he]; exact h0), he]; rfl
theorem quh {all : Bool} {l : List (List Trust)} (hl : l.length ≤ 10) (hs : qnh l) {dummy : List Member} : ∀ (suf pre : List (List Trust)), l = pre ++ suf → qb2 suf = qb2 l → (∀ x ∈ pre, listE x = 0) →
  z1y all l ((l.length : Nat) : Int) ((pre.length : Nat) : Int) dummy (pre.map fun x => memJ all (diffs x)) = some (joinR all l)
 | [], pre, e, he, hp => by
  rw [List.append_nil] at e;subst e;have h0 : qb2 l = 0 := by rw [← he]; rfl
  have hsm : q0f (joinC all l) := ⟨by unfold joinC; simp only [List.length_map]; omega, fun m hm => by
   unfold joinC at hm;obtain ⟨x, hx, rfl⟩ := List.mem_map.1 hm;have h1 := hp x hx;unfold listE at h1;by_cases hv : verrs x = 0
   ·rw [if_pos hv] at h1;obtain ⟨d1, d2, d3⟩ := qr8 (hs x hx).1 (hs x hx).2;have h4 : (diffs x).length ≤ 4 := by
     by_cases h4 : 4 < (diffs x).length
     ·rw [if_pos h4] at h1; cases h1
     ·omega
    exact qto h4 (fun y hy => qiz.1 hv y ((d3 y).1 hy))
   ·rw [if_neg hv] at h1; exact absurd h1 hv⟩
  have hE : joinE all l = cerr (joinC all l) := by unfold joinE; rw [if_neg (by omega), if_pos h0]
  apply y2b;rw [q00 (Int.le_refl _)];simp only [cF];rw [show Config.mk (l.map fun x => memJ all (diffs x)) = joinC all l from rfl, qat hsm];simp only [bS];unfold joinR;rw [hE];by_cases hc : cerr (joinC all l) = 0
  ·rw [hc, q08]; rfl
  ·rw [q0p hc, if_neg hc]; rfl
 | x :: suf, pre, e, he, hp => by
  have hd : l.drop pre.length = x :: suf := by rw [e]; simp
  have hlt := q0h hd;have hx : x ∈ l := by rw [e]; simp
  apply y2b;rw [q09 hd];simp only [cT, q07 hd];refine qvp (hs x hx) (by simp; omega) (by omega) (fun h0 => ?_) (fun h0 => ?_) x 0 rfl rfl
  ·have := quh (all := all) hl hs (dummy := dummy) suf (pre ++ [x]) (by rw [e]; simp) (by rw [← he]; simp [qb2, h0]) (fun y hy => by
    rcases List.mem_append.1 hy with hy | hy
    ·exact hp y hy
    ·rw [List.mem_singleton.1 hy]; exact h0)
   simpa using this
  ·have h1 : qb2 l = listE x := by rw [← he]; simp [qb2, h0]
   have hE : joinE all l = listE x := by unfold joinE; rw [if_neg (by omega : ¬ 10 < l.length), if_neg (by rw [h1]; exact h0), h1]
   unfold joinR;rw [hE, if_neg h0]
theorem qm2 {all : Bool} {l : List (List Trust)} (hs : qnh l) (hl : l.length < 1000000) : z5w l all = some (joinR all l) := by
 apply yag;by_cases h : 10 < l.length
 ·rw [q03 (by omega)];unfold joinR joinE;rw [if_pos h]; rfl
 ·rw [q00 (by omega)];exact quh (by omega) hs l [] rfl rfl (by simp)
theorem y4p {l : List (List Trust)} (hs : qnh l) (hl : l.length < 1000000) : z74 l = some (joinR false l) := by
 apply y9c;rw [qm2 hs hl]; rfl
theorem qyu {l : List (List Trust)} (hs : qnh l) (hl : l.length < 1000000) : z6x l = some (joinR true l) := by
 apply y5l;rw [qm2 hs hl]; rfl
theorem nz {a : Nat} : a ≠ 0 ↔ ∃ i, a.testBit i = true := ⟨qyt, fun ⟨i, hi⟩ e => by rw [e, Nat.zero_testBit] at hi; cases hi⟩
theorem qs8 {a b : Nat} : a &&& b ≠ 0 ↔ ∃ i, a.testBit i = true ∧ b.testBit i = true := by
 rw [nz]; simp only [Nat.testBit_and, aT]
theorem qkn {a b : Nat} : ndiff a b ≠ 0 ↔ ∃ i, a.testBit i = true ∧ b.testBit i = false := by
 rw [nz]; simp only [q04, aT, Bool.not_eq_true']
def full (c : Config) : Nat := 2 ^ c.Members.length - 1
theorem q83 {c : Config} {i : Nat} : (full c).testBit i = decide (i < c.Members.length) := by rw [full, Nat.testBit_two_pow_sub_one]
theorem q22 {c : Config} (hn : c.Members.length ≤ 10) : full c < 1024 := by have := pow10 hn; unfold full; omega
theorem q2o {c : Config} {s : Nat} : s < 2 ^ c.Members.length ↔ Sub s (full c) := q1t
theorem qxs {c : Config} (hn : c.Members.length ≤ 10) : Sub (decl c) (full c) := q2o.1 (q9h hn)
structure PairOk (n : Nat) (lo hi : Config) : Prop where
 lok : ConfOk n lo
 hik : ConfOk n hi
 len : lo.Members.length = hi.Members.length
 dec : decl lo = decl hi
 imp : ∀ k s, (decl lo).testBit k = true → s < 1024 → sat s (tr hi k) = true → sat s (tr lo k) = true
variable {n : Nat} {lo hi : Config}
theorem PairOk.self {c : Config} (h : ConfOk n c) : PairOk n c c := ⟨h, h, rfl, rfl, fun _ _ _ _ h => h⟩
theorem PairOk.fullEq (h : PairOk n lo hi) : full lo = full hi := by unfold full; rw [h.len]
theorem qd4 (h : PairOk n lo hi) {q : Nat} (hq : q1v hi q) : q1v lo q :=
 ⟨hq.1, by rw [h.dec]; exact hq.2.1, fun k hk => h.imp k q (by rw [h.dec]; exact hq.2.1 k hk) (qhg hq) (hq.2.2 k hk)⟩
theorem qhj {s z : Nat} (h : Sub s z) {t : Trust} (hs : sat s t = true) : sat z t = true := qrr (qox h) t hs
theorem y86 {c : Config} {a b : Nat} (ha : q1v c a) (hb : q1v c b) : q1v c (a ||| b) := by
 refine ⟨fun e => ha.1 (Nat.le_zero.1 (e ▸ (Nat.left_le_or : a ≤ a ||| b))), ha.2.1.or hb.2.1, fun k hk => ?_⟩;rw [Nat.testBit_or, Bool.or_eq_true] at hk;rcases hk with hk | hk
 ·exact qhj Sub.left (ha.2.2 k hk)
 ·exact qhj Sub.right (hb.2.2 k hk)
def QL (c : Config) (b y : Nat) : Prop := y ≠ 0 ∧ Sub y (decl c) ∧ (∀ i, y.testBit i = true → b.testBit i = false) ∧ ∀ k, y.testBit k = true → sat (y ||| b) (tr c k) = true
theorem y8t {c : Config} {b y : Nat} : q1v (delC b c) y ↔ QL c b y := by
 constructor
 ·intro h;have hd : ∀ i, y.testBit i = true → b.testBit i = false := fun i hi => (q3z.1 (h.2.1 i hi)).2
  have h' := (qit (qhg h) hd).1 h;exact ⟨h'.1, h'.2.1, hd, h'.2.2⟩
 ·rintro ⟨h1, h2, h3, h4⟩;exact (qit (h2.lt (q4w c)) h3).2 ⟨h1, h2, h4⟩
theorem q93 {c : Config} {b d y : Nat} (hbd : Sub b d) (h : QL c b y) (h0 : ndiff y d ≠ 0) : QL c d (ndiff y d) := by
 refine ⟨h0, fun i hi => h.2.1 i ?_, fun i hi => ?_, fun k hk => ?_⟩
 ·rw [q04, aT] at hi; exact hi.1
 ·rw [q04, aT, Bool.not_eq_true'] at hi; exact hi.2
 ·rw [q04, aT] at hk;rw [qpj];refine qhj (fun i hi => ?_) (h.2.2.2 k hk.1);rw [Nat.testBit_or, Bool.or_eq_true] at hi ⊢;exact hi.imp id (hbd i)
theorem y1c {c : Config} {q : Nat} (h : q1v c q) : QL c 0 q := ⟨h.1, h.2.1, fun i _ => Nat.zero_testBit i, fun k hk => by rw [Nat.or_zero]; exact h.2.2 k hk⟩
theorem qqz (b : Nat) : Sub 0 b := fun i hi => by rw [Nat.zero_testBit] at hi; cases hi
theorem qms {c : Config} {b q : Nat} (h : q1v c q) (hd : ∀ i, q.testBit i = true → b.testBit i = false) : QL c b q :=
 ⟨h.1, h.2.1, hd, fun k hk => qhj Sub.left (h.2.2 k hk)⟩
theorem qi5 {c : Config} (hn : c.Members.length ≤ 10) {b : Nat} : q2a c b = true ↔ ∃ x y, QL c b x ∧ QL c b y ∧ x &&& y = 0 := by
 unfold q2a;rw [qli (by rw [qau]; exact hn)];simp only [y8t]
theorem qjy {c : Config} (hn : c.Members.length ≤ 10) {b x y : Nat} (h : q2a c b = false) (hx : QL c b x) (hy : QL c b y) : ∃ i, x.testBit i = true ∧ y.testBit i = true := by
 apply qs8.1;intro e;rw [(qi5 hn).2 ⟨x, y, hx, hy, e⟩] at h;cases h
def q9g (c : Config) (b : Nat) : Bool := ndiff (full c) b == 0 || quoB c (ndiff (full c) b)
def isB (lo hi : Config) (b : Nat) : Bool := q9g hi b && !q2a lo b
theorem q9b {c : Config} (hn : c.Members.length ≤ 10) (b : Nat) : ndiff (full c) b < 1024 := q1g (q22 hn)
theorem qnk {c : Config} (hn : c.Members.length ≤ 10) {b : Nat} : q9g c b = true ↔ ndiff (full c) b = 0 ∨ q1v c (ndiff (full c) b) := by
 unfold q9g;rw [Bool.or_eq_true, beq_iff_eq, q6m (q9b hn b)]
theorem ConfOk.le10 {c : Config} (h : ConfOk n c) (hn : n ≤ 10) : c.Members.length ≤ 10 := Nat.le_trans h.le hn
theorem qbb (h : PairOk n lo hi) (hn : n ≤ 10) {b : Nat} : isB lo hi b = true ↔ (ndiff (full lo) b = 0 ∨ q1v hi (ndiff (full lo) b)) ∧ q2a lo b = false := by
 unfold isB;rw [aT, qnk (h.hik.le10 hn), ← h.fullEq, Bool.not_eq_true']
theorem q1j {a b : Nat} : ndiff a b = 0 ↔ Sub a b := by rw [← q6n, subB, beq_iff_eq]
theorem y0g (h : PairOk n lo hi) (hn : n ≤ 10) : isB lo hi (full lo) = true := by
 rw [qbb h hn];refine ⟨.inl (q1j.2 (Sub.refl _)), ?_⟩;rw [← Bool.not_eq_true, qi5 (h.lok.le10 hn)];rintro ⟨x, _, ⟨h1, h2, h3, _⟩, _⟩;obtain ⟨i, hi⟩ := nz.1 h1;have := qxs (h.lok.le10 hn) i (h2 i hi);rw [h3 i hi] at this;cases this
theorem meets (h : PairOk n lo hi) (hn : n ≤ 10) {ill x y : Nat} (hx : isB lo hi x = true) (hy : isB lo hi y = true) (hill : q2a lo ill = false) (ix : Sub ill x) (iy : Sub ill y) (lx : Sub x (full lo)) (ly : Sub y (full lo)) : isB lo hi (x &&& y) = true := by
 have hle := h.lok.le10 hn;obtain ⟨ax, sx⟩ := (qbb h hn).1 hx;obtain ⟨ay, sy⟩ := (qbb h hn).1 hy;rcases ax with ax | ax
 ·rw [show x &&& y = y from (Sub.and_right x y).antisymm (fun i hi => by rw [Nat.testBit_and, q1j.1 ax i (ly i hi), hi]; rfl)];exact hy
 rcases ay with ay | ay
 ·rw [show x &&& y = x from (Sub.and_left x y).antisymm (fun i hi => by rw [Nat.testBit_and, q1j.1 ay i (lx i hi), hi]; rfl)];exact hx
 have hU : ndiff (full lo) (x &&& y) = ndiff (full lo) x ||| ndiff (full lo) y := by
  apply Nat.eq_of_testBit_eq;intro i;simp only [Nat.testBit_or, q04, Nat.testBit_and];cases (full lo).testBit i <;> cases x.testBit i <;> cases y.testBit i <;> rfl
 rw [qbb h hn, hU];refine ⟨.inr (y86 ax ay), ?_⟩;have bx : ∀ i, (ndiff (full lo) x).testBit i = true → x.testBit i = false := fun i hi => by
  rw [q04, aT, Bool.not_eq_true'] at hi; exact hi.2
 have by' : ∀ i, (ndiff (full lo) y).testBit i = true → y.testBit i = false := fun i hi => by
  rw [q04, aT, Bool.not_eq_true'] at hi; exact hi.2
 have off : ∀ {a b : Nat}, Sub a b → ∀ i, b.testBit i = false → a.testBit i = false := fun {a b} hs i hi => by
  cases ha : a.testBit i with
  | false => rfl
  | true => rw [hs i ha] at hi; cases hi
 obtain ⟨m, m1, m2⟩ := qjy hle hill (qms (qd4 h ax) fun i hi => off ix i (bx i hi)) (qms (qd4 h ay) fun i hi => off iy i (by' i hi));have claim : ∀ A, QL lo (x &&& y) A → ndiff A x ≠ 0 := by
  intro A hA h0;have hsub := q1j.1 h0;obtain ⟨i, hi⟩ := nz.1 hA.1;have hxy := hA.2.2.1 i hi;rw [Nat.testBit_and, hsub i hi, tA] at hxy;have hAy := q93 (Sub.and_right x y) hA (qkn.2 ⟨i, hi, hxy⟩);have hUy := q93 (qqz y) (y1c (qd4 h ax)) (qkn.2 ⟨m, m1, by' m m2⟩);obtain ⟨j, j1, j2⟩ := qjy hle sy hAy hUy;rw [q04, aT] at j1 j2;have := bx j j2.1;rw [hsub j j1.1] at this;cases this
 rw [← Bool.not_eq_true, qi5 hle];rintro ⟨A, B, hA, hB, hAB⟩;obtain ⟨j, j1, j2⟩ := qjy hle sx (q93 (Sub.and_left x y) hA (claim A hA)) (q93 (Sub.and_left x y) hB (claim B hB));rw [q04, aT] at j1 j2;exact qs8.2 ⟨j, j1.1, j2.1⟩ hAB
def alls (lo hi : Config) (ill : Nat) : List Nat := (q1q (full lo)).filter fun b => ndiff ill b == 0 && isB lo hi b
theorem q2j {ill b : Nat} : b ∈ alls lo hi ill ↔ Sub b (full lo) ∧ Sub ill b ∧ isB lo hi b = true := by
 unfold alls;rw [List.mem_filter, q0s, aT, beq_iff_eq, q1j]
theorem qwz (h : PairOk n lo hi) (hn : n ≤ 10) {ill : Nat} (hill : Sub ill (full lo)) : full lo ∈ alls lo hi ill := q2j.2 ⟨Sub.refl _, hill, y0g h hn⟩
def ands : List Nat → Nat → Nat := fun l a => l.foldl (fun a b => a &&& b) a
theorem qjw : ∀ (l : List Nat) (a : Nat), Sub (ands l a) a ∧ ∀ b ∈ l, Sub (ands l a) b
 | [], a => ⟨Sub.refl _, fun b hb => by cases hb⟩
 | x :: l, a => by
  obtain ⟨h1, h2⟩ := qjw l (a &&& x);refine ⟨h1.trans (Sub.and_left _ _), fun b hb => ?_⟩;rcases List.mem_cons.1 hb with rfl | hb
  ·exact h1.trans (Sub.and_right _ _)
  ·exact h2 b hb
theorem qi9 {p : Nat → Prop} (hp : ∀ a b, p a → p b → p (a &&& b)) : ∀ (l : List Nat) (a : Nat), p a → (∀ b ∈ l, p b) → p (ands l a)
 | [], _, ha, _ => ha
 | x :: l, a, ha, h => qi9 hp l (a &&& x) (hp a x ha (h x (by simp))) (fun b hb => h b (by simp [hb]))
theorem y5f {z : Nat} : ∀ (l : List Nat) (a : Nat), Sub z a → (∀ b ∈ l, Sub z b) → Sub z (ands l a) := fun l a ha h => qi9 (p := fun b => Sub z b) (fun a b ha hb i hi => by rw [Nat.testBit_and, ha i hi, hb i hi]; rfl) l a ha h
def bef (lo hi : Config) (ill : Nat) : Nat := if q2a lo ill then full lo else ands (alls lo hi ill) (full lo)
theorem qvs {ill : Nat} (hill : Sub ill (full lo)) : Sub ill (bef lo hi ill) := by
 unfold bef; split
 ·exact hill
 ·exact y5f _ _ hill fun b hb => (q2j.1 hb).2.1
theorem qsl (h : PairOk n lo hi) (hn : n ≤ 10) {ill : Nat} (hill : Sub ill (full lo)) (hs : q2a lo ill = false) : bef lo hi ill ∈ alls lo hi ill := by
 unfold bef;rw [hs];exact qi9 (p := fun b => b ∈ alls lo hi ill) (fun a b ha hb => by
  obtain ⟨a1, a2, a3⟩ := q2j.1 ha;obtain ⟨b1, b2, b3⟩ := q2j.1 hb;exact q2j.2 ⟨(Sub.and_left _ _).trans a1, fun i hi => by rw [Nat.testBit_and, a2 i hi, b2 i hi]; rfl, meets h hn a3 b3 hs a2 b2 a1 b1⟩) _ _ (qwz h hn hill) fun b hb => hb
theorem q9s {ill b : Nat} (hs : q2a lo ill = false) (hb : b ∈ alls lo hi ill) : Sub (bef lo hi ill) b := by
 unfold bef;rw [hs];exact (qjw _ _).2 b hb
theorem qab (h : PairOk n lo hi) (hn : n ≤ 10) {ill : Nat} (hill : Sub ill (full lo)) (h0 : ndiff (full lo) (bef lo hi ill) ≠ 0) : q2a lo ill = false ∧ q1v hi (ndiff (full lo) (bef lo hi ill)) := by
 cases hs : q2a lo ill with
 | true =>
  exfalso; apply h0;rw [q1j]; unfold bef; rw [hs]; exact Sub.refl _
 | false =>
  obtain ⟨_, _, hb⟩ := q2j.1 (qsl h hn hill hs);exact ⟨rfl, ((qbb h hn).1 hb).1.resolve_left h0⟩
theorem y59 {c : Config} (h : ConfOk n c) (_hn : n ≤ 10) {k : Nat} (hk : (decl c).testBit k = true) : Sub (uses (tr c k)) (full c) := by
 obtain ⟨m, m1, m2, m3⟩ := q3q hk;have := (h.good m (List.mem_of_getElem? m1) m3).2;rw [m2];exact q2o.1 (qjv _ this)
theorem qzq {c : Config} (h : ConfOk n c) (hn : n ≤ 10) {k s z : Nat} (hk : (decl c).testBit k = true) (hs : ∀ i, (full c).testBit i = true → s.testBit i = z.testBit i) : sat s (tr c k) = sat z (tr c k) := by
 apply qrx;intro j hj;obtain ⟨i, rfl, hi, hb⟩ := qev hj;rw [q23 hi, q23 hi];exact hs i (y59 h hn hk i hb)
theorem follows (h : PairOk n lo hi) (hn : n ≤ 10) {ill x g : Nat} (hill : Sub ill (full lo)) (hg : q1v lo g) (h0 : g &&& ndiff (full lo) (bef lo hi ill) ≠ 0) (hx : Sub (g &&& ndiff (full lo) (bef lo hi ill)) x) (hne : ¬ Sub (ndiff (full lo) (bef lo hi ill)) x) :
  ∃ v, (ndiff (full lo) (bef lo hi ill)).testBit v = true ∧ x.testBit v = false ∧ blk lo v (ndiff (full lo) (bef lo hi ill) &&& x) = true := by
 have hle := h.lok.le10 hn;have ha0 : ndiff (full lo) (bef lo hi ill) ≠ 0 := by
  obtain ⟨i, _, h2⟩ := qs8.1 h0;exact nz.2 ⟨i, h2⟩
 obtain ⟨hs, hq⟩ := qab h hn hill ha0;have hb := qsl h hn hill hs;obtain ⟨_, _, hbi⟩ := q2j.1 hb;have hsb := ((qbb h hn).1 hbi).2;generalize hB : bef lo hi ill = b at *;apply Classical.byContradiction;intro hno;have hno' : ∀ v, (ndiff (full lo) b).testBit v = true → x.testBit v = false → blk lo v (ndiff (full lo) b &&& x) = false := fun v h1 h2 => by
  cases hk : blk lo v (ndiff (full lo) b &&& x) with
  | false => rfl
  | true => exact absurd ⟨v, h1, h2, hk⟩ hno
 have hdec : Sub (ndiff (full lo) b) (decl lo) := by rw [h.dec]; exact hq.2.1
 have hW0 : ndiff (ndiff (full lo) b) x ≠ 0 := fun e => hne (q1j.1 e)
 have hW : QL lo b (ndiff (ndiff (full lo) b) x) := by
  refine ⟨hW0, fun i hi => hdec i ?_, fun i hi => ?_, fun k hk => ?_⟩
  ·rw [q04, aT] at hi; exact hi.1
  ·rw [q04, q04] at hi; simp only [aT, Bool.not_eq_true'] at hi; exact hi.1.2
  ·rw [q04 (ndiff (full lo) b) x, aT, Bool.not_eq_true'] at hk;have hkd := hdec k hk.1;have := hno' k hk.1 hk.2;unfold blk at this;rw [hkd, tA, Bool.not_eq_false'] at this;rw [← this];apply qzq h.lok hn hkd;intro i hi;have h10 : (1023 : Nat).testBit i = true := by
    rw [q83, dT'] at hi;rw [qbo, dT']; omega
   rw [Nat.testBit_or, Nat.testBit_or, q04, q04, q04, Nat.testBit_and, q04, q41, hi, h10];by_cases hki : k = i
   ·subst hki; rw [hk.2];have := hk.1;rw [q04, hi, tA] at this;simp [this]
   ·rw [decide_eq_false hki];cases b.testBit i <;> cases x.testBit i <;> rfl
 have hgl := q93 (qqz b) (y1c hg) (by
  obtain ⟨i, h1, h2⟩ := qs8.1 h0;rw [q04, aT, Bool.not_eq_true'] at h2;exact qkn.2 ⟨i, h1, h2.2⟩)
 obtain ⟨i, i1, i2⟩ := qjy hle hsb hW hgl;rw [q04, aT, Bool.not_eq_true'] at i1;rw [q04, aT] at i2;have := hx i (by rw [Nat.testBit_and, i2.1, i1.1]; rfl);rw [i1.2] at this;cases this
def q4n (c : Config) (b v : Nat) : Bool := !(decl c).testBit v || !sat (ndiff (full c) b) (tr c v)
theorem qi1 {c : Config} (hn : c.Members.length ≤ 10) {b : Nat} : q9g c b = (nodes (ndiff (full c) b)).all fun v => !q4n c b v := by
 rw [Bool.eq_iff_iff, qnk hn, List.all_eq_true];have hlt := q9b hn b;constructor
 ·intro h v hv;obtain ⟨hv, _⟩ := q1n.1 hv;rcases h with h | h
  ·rw [h, Nat.zero_testBit] at hv; cases hv
  ·simp [q4n, h.2.1 v hv, h.2.2 v hv]
 ·intro h;by_cases h0 : ndiff (full c) b = 0
  ·exact .inl h0
  ·have hx : ∀ v, (ndiff (full c) b).testBit v = true → (decl c).testBit v = true ∧ sat (ndiff (full c) b) (tr c v) = true := fun v hv => by
    have := h v (q1n.2 ⟨hv, q2m hlt hv⟩);simp only [q4n, Bool.not_or, Bool.not_not, aT] at this;exact this
   exact .inr ⟨h0, fun v hv => (hx v hv).1, fun v hv => (hx v hv).2⟩
def refR (lo hi : Config) (b : Nat) : Int × Int × Int × Int :=
 match (nodes (ndiff (full hi) b)).find? (q4n hi b) with
 | some v => ((v : Int), 0, 0, 0)
 | none => if twoB (delC b lo) then (-1, ((apart (delC b lo)).1 : Int), ((apart (delC b lo)).2 : Int), 0) else (0, 0, 0, 11)
def quoZ (c : Config) (z : Int) : Bool := okS z && quoB c z.toNat
def chkB (lo hi : Config) (b : Nat) (x y z : Int) : Bool :=
 if 0 ≤ x then decide (y = 0) && (decide (z = 0) && (has (ndiff (full hi) b) x && q4n hi b x.toNat))
 else decide (x = -1) && (quoZ (delC b lo) y && (quoZ (delC b lo) z && y.toNat &&& z.toNat == 0))
theorem qdn {c : Config} {z : Int} (h : quoZ c z = true) : ∃ s : Nat, z = (s : Int) ∧ q1v c s := by
 unfold quoZ at h;rw [aT] at h;obtain ⟨s, rfl, hs⟩ := qr3 h.1;exact ⟨s, rfl, (q6m hs).1 h.2⟩
theorem qf9 {c : Config} {s : Nat} (h : q1v c s) : quoZ c (s : Int) = true := by
 unfold quoZ;rw [q7v (qhg h), tA];exact (q6m (qhg h)).2 h
theorem y43 (h : PairOk n lo hi) (hn : n ≤ 10) {b : Nat} {x y z : Int} (hc : chkB lo hi b x y z = true) : isB lo hi b = false := by
 cases hb : isB lo hi b with
 | false => rfl
 | true =>
  exfalso;unfold isB at hb;rw [aT, Bool.not_eq_true', qi1 (h.hik.le10 hn), List.all_eq_true] at hb;unfold chkB at hc;split at hc
  ·simp only [aT, dT'] at hc;obtain ⟨_, _, h3, h4⟩ := hc;obtain ⟨v, rfl, hv, hbv⟩ := qev h3;have := hb.1 v (q1n.2 ⟨hbv, hv⟩);rw [tN] at h4;rw [h4] at this;cases this
  ·simp only [aT, dT', beq_iff_eq] at hc;obtain ⟨_, h2, h3, h4⟩ := hc;obtain ⟨s, rfl, hs⟩ := qdn h2;obtain ⟨t, rfl, ht⟩ := qdn h3;have := (qli (c := delC b lo) (by rw [qau]; exact h.lok.le10 hn)).2 ⟨s, t, hs, ht, h4⟩;unfold q2a at hb;rw [this] at hb;cases hb.2
theorem qxa (h : PairOk n lo hi) (hn : n ≤ 10) {b : Nat} (hb : isB lo hi b = false) : (refR lo hi b).2.2.2 = 0 ∧ chkB lo hi b (refR lo hi b).1 (refR lo hi b).2.1 (refR lo hi b).2.2.1 = true := by
 unfold refR;cases hf : (nodes (ndiff (full hi) b)).find? (q4n hi b) with
 | some v =>
  have h1 := List.find?_some hf;obtain ⟨hv, hv10⟩ := q1n.1 (List.mem_of_find?_eq_some hf);refine ⟨rfl, ?_⟩;unfold chkB;simp only;rw [if_pos (Int.natCast_nonneg v), q23 hv10, hv, tN, h1];rfl
 | none =>
  have hav : q9g hi b = true := by
   rw [qi1 (h.hik.le10 hn), List.all_eq_true];intro v hv;have := List.find?_eq_none.1 hf v hv;simpa using this
  have htw : twoB (delC b lo) = true := by
   unfold isB q2a at hb;rw [hav, tA, Bool.not_eq_false'] at hb;exact hb
  simp only [htw, if_true];refine ⟨trivial, ?_⟩;have hle : (delC b lo).Members.length ≤ 10 := by rw [qau]; exact h.lok.le10 hn
  rcases apart_spec hle with ⟨h1, _, _⟩ | ⟨h1, h2, h3, _⟩
  ·unfold twoB at htw;rw [h1] at htw; cases htw
  ·unfold chkB;rw [if_neg (by decide), qf9 h1, qf9 h2, tN, tN, h3];rfl
theorem qzd {m : Nat} : ∀ t : Trust, good t = true → uses t < 2 ^ m → below (m : Int) t = true := by
 apply Trust.ind;intro t ih hg hu;rw [q9v] at hg;simp only [aT, dT'] at hg;obtain ⟨_, _, hN, _, hI⟩ := hg;rw [q6r] at hu;have hu' := q1t.1 hu;rw [qsk, aT];refine ⟨?_, ?_⟩
 ·rw [List.all_eq_true];intro k hk;have hkr := List.all_eq_true.1 hN k hk;have h1 := qft hk hkr;obtain ⟨j, rfl, hj, hb⟩ := qev h1;have h2 := hu' j (by rw [Nat.testBit_or, hb]; rfl);rw [Nat.testBit_two_pow_sub_one, dT'] at h2;simp; omega
 ·have hgs : ∀ l : List Trust, goods l = true → ∀ x ∈ l, good x = true := by
   intro l;induction l with
   | nil => intro _ x hx; cases hx
   | cons y r ihr =>
    intro h x hx;simp only [goods, aT] at h;rcases List.mem_cons.1 hx with rfl | hx
    ·exact h.1
    ·exact ihr h.2 x hx
  have key : ∀ l : List Trust, (∀ x ∈ l, below (m : Int) x = true) → q4p (m : Int) l = true := by
   intro l;induction l with
   | nil => intro _; rfl
   | cons y r ihr => intro h; simp only [q4p, h y (by simp), ihr (fun x hx => h x (by simp [hx])), Bool.and_self]
  refine key _ fun x hx => ih x hx (hgs _ hI x hx) ?_
  exact q1t.2 fun i hi => hu' i (by rw [Nat.testBit_or, qgh hx i hi, Bool.or_true])
theorem ValidC.conf {c : Config} {n : Nat} (h : ValidC c) (h1 : 1 ≤ c.Members.length) (h2 : c.Members.length ≤ n) : ConfOk n c :=
 ⟨h1, h2, fun m hm => by
  have := h.2 m hm;unfold MemV at this;unfold MemOk;split
  ·rename_i hd;rw [if_pos hd] at this;exact ⟨this.1, qzd _ (qu2 this.1) this.2⟩
  ·rename_i hd;rw [if_neg hd] at this;exact this⟩
theorem qwy (a b : Bool) (d : List Trust) : (memJ a d).Declared = (memJ b d).Declared := by
 match d with
 | [] => rfl
 | [_] => rfl
 | _ :: _ :: _ => rfl
theorem qrh {s : Nat} : ∀ {l : List Trust}, 1 ≤ sats s l ↔ ∃ x ∈ l, sat s x = true
 | [] => by simp [sats]
 | x :: r => by
  have ih := qrh (s := s) (l := r);simp only [sats, List.mem_cons, exists_eq_or_imp, ← ih];cases sat s x <;> simp <;> omega
theorem quk (s : Nat) : ∀ l : List Trust, sats s l ≤ l.length
 | [] => by simp [sats]
 | x :: r => by
  have := quk s r;simp only [sats, List.length_cons]; split <;> omega
theorem qqc {s : Nat} : ∀ {l : List Trust}, l.length ≤ sats s l ↔ ∀ x ∈ l, sat s x = true
 | [] => by simp [sats]
 | x :: r => by
  have ih := qqc (s := s) (l := r);have h2 := quk s r;simp only [sats, List.length_cons, List.mem_cons, forall_eq_or_imp, ← ih];cases sat s x
  ·simp; omega
  ·simp; omega
theorem qum {s : Nat} {d : List Trust} (h0 : d ≠ []) : sat s (memJ true d).Trust = true ↔ ∀ x ∈ d, sat s x = true := by
 match d, h0 with
 | [x], _ => simp [memJ]
 | x :: y :: r, _ =>
  rw [← qqc];unfold memJ;rw [q8r];simp only [if_true, cnt, List.countP_nil, Nat.zero_add, dT'];omega
theorem qyn {s : Nat} {d : List Trust} (h0 : d ≠ []) : sat s (memJ false d).Trust = true ↔ ∃ x ∈ d, sat s x = true := by
 match d, h0 with
 | [x], _ => simp [memJ]
 | x :: y :: r, _ =>
  rw [← qrh];unfold memJ;rw [q8r];simp only [fT, if_false, cnt, List.countP_nil, Nat.zero_add, dT'];omega
theorem q72 (a : Bool) (l : List (List Trust)) : (joinC a l).Members.length = l.length := by unfold joinC; simp
theorem qgr (a : Bool) (l : List (List Trust)) (k : Nat) : (joinC a l).Members[k]? = (l[k]?).map fun x => memJ a (diffs x) := by unfold joinC; simp
theorem qiv (a b : Bool) (l : List (List Trust)) : decl (joinC a l) = decl (joinC b l) := by
 apply Nat.eq_of_testBit_eq;intro i;rw [Bool.eq_iff_iff, q38, q38, qgr, qgr];cases h : l[i]? with
 | none => simp
 | some x => simp [qwy a b]
theorem qj3 {a : Bool} {l : List (List Trust)} (h : joinE a l = 0) : l.length ≤ 10 ∧ qb2 l = 0 ∧ cerr (joinC a l) = 0 := by
 unfold joinE at h;split at h
 ·cases h
 ·split at h
  ·rename_i h1 h2; exact ⟨by omega, h2, h⟩
  ·rename_i h2; exact absurd h h2
theorem qui {n : Nat} {l : List (List Trust)} (h1 : 1 ≤ l.length) (h2 : l.length ≤ n) (e0 : joinE false l = 0) (e1 : joinE true l = 0) : PairOk n (joinC false l) (joinC true l) := by
 obtain ⟨_, _, c0⟩ := qj3 e0;obtain ⟨_, _, c1⟩ := qj3 e1;refine ⟨(q1z.1 c0).conf (by rw [q72]; exact h1) (by rw [q72]; exact h2), (q1z.1 c1).conf (by rw [q72]; exact h1) (by rw [q72]; exact h2), by rw [q72, q72], qiv _ _ _, fun k s hk hs h => ?_⟩;obtain ⟨m, m1, m2, m3⟩ := q3q hk;rw [qiv false true] at hk;obtain ⟨m', m1', m2', m3'⟩ := q3q hk;rw [qgr] at m1 m1';cases hx : l[k]? with
 | none => rw [hx] at m1; cases m1
 | some x =>
  rw [hx] at m1 m1';simp only [mS, sI] at m1 m1';have h0 : diffs x ≠ [] := fun e => by rw [← m1, e] at m3; cases m3
  rw [m2, ← m1, qyn h0];rw [m2', ← m1', qum h0] at h;obtain ⟨y, r, hy⟩ := List.exists_cons_of_ne_nil h0;exact ⟨y, by rw [hy]; simp, h y (by rw [hy]; simp)⟩
theorem y3u {m : Int} (h1 : 1 ≤ m) (h2 : m ≤ 10) {x : Trust} (hx : size x ≤ 200) {l : List Int} {i : Int} (h : q0v l i) : ∃ t j, z72 x m l i = some (t, l, j) ∧ Small t ∧ q0v l j := by
 obtain ⟨v, j, g1, g2, g3, g4⟩ := N_ok (n := 3) (by decide) (by decide) h;have hsm : ∀ k, Small (Trust.mk k x.Nodes x.Inner) := fun k => by
  rw [q2s] at hx;unfold Small; rw [q2s]; simp only; omega
 by_cases h0 : v = 0
 ·refine ⟨Trust.mk (if (addI .i64 x.Threshold 1) < (addI .i64 ((List.length x.Nodes : Nat) : Int) ((List.length x.Inner : Nat) : Int)) then (addI .i64 x.Threshold 1) else (addI .i64 ((List.length x.Nodes : Nat) : Int) ((List.length x.Inner : Nat) : Int))) x.Nodes x.Inner, j, ?_, hsm _, g4⟩;apply qxn;rw [g1];simp only [bS];rw [h0, q0o];rfl
 ·by_cases h1' : v = 1
  ·refine ⟨Trust.mk (if (subI .i64 x.Threshold 1) > 1 then (subI .i64 x.Threshold 1) else 1) x.Nodes x.Inner, j, ?_, hsm _, g4⟩;apply qxn;rw [g1];simp only [bS];rw [q13 h0, h1', q0o];simp only [cF, cT]
  ·obtain ⟨t, j2, k1, _, k3, k4⟩ := qru h1 h2 1 (by decide) g4;refine ⟨t, j2, ?_, k3, k4⟩;apply qxn;rw [g1];simp only [bS];rw [q13 h0, q13 h1', show (2 : Int) = ((1 + 1 : Nat) : Int) from rfl, k1];simp only [cF, bS, Trust.eta]
def PairR (n : Nat) (tl : List Int) (r : Option (Config × Config × List Int × Int)) : Prop := ∃ lo hi j, r = some (lo, hi, tl, j) ∧ PairOk n lo hi ∧ q0v tl j
theorem qxh {n : Nat} {ms : List Member} (hm1 : 1 ≤ ms.length) (hm2 : ms.length ≤ 10) {acc : List (List Trust)} (hacc : acc.length < 100) {len : Int} {i0 : Nat} (hi0 : i0 < 1000) {tl : List Int} {d1 d2 : List Member} {t : Trust} {b : Bool} (ht : size t ≤ 200)
  (K : ∀ x i, (x.length < 1000000 ∧ ∀ y ∈ x, Small y) → q0v tl i → PairR n tl (z3h (acc ++ [x]) ms len ((i0 + 1 : Nat) : Int) tl i d1 d2 ms)) : ∀ (k : Nat) (x : List Trust) (i : Int), x.length + k < 1000 → (∀ y ∈ x, Small y) → q0v tl i →
  PairR n tl (z64 acc x (k : Int) ms len (i0 : Int) tl i d1 d2 ms b t.Threshold t.Nodes t.Inner)
 | 0, x, i, hx, hs, h => by
  obtain ⟨lo, hi, j, g1, g2, g3⟩ := K x i ⟨by omega, hs⟩ h;refine ⟨lo, hi, j, ?_, g2, g3⟩;apply y1b;rw [q00 (by omega)];simp only [cF];rw [q0d (by simp [q0j]; omega), q02 (by omega)];exact g1
 | k + 1, x, i, hx, hs, h => by
  obtain ⟨y, j, k1, k2, k3⟩ := y3u (m := ((ms.length : Nat) : Int)) (by omega) (by omega) ht h;obtain ⟨lo, hi, j2, g1, g2, g3⟩ := qxh hm1 hm2 hacc hi0 (b := b) ht K k (x ++ [y]) j (by simp; omega) (fun z hz => by
   rcases List.mem_append.1 hz with hz | hz
   ·exact hs z hz
   ·rw [List.mem_singleton.1 hz]; exact k2) k3
  refine ⟨lo, hi, j2, ?_, g2, g3⟩;apply y1b;rw [q03 (by omega)];simp only [cT, Trust.eta];rw [k1];simp only [bS];rw [q0d (by simp [q0j]; omega), q2q (by omega) (by omega), show ((k + 1 : Nat) : Int) - 1 = ((k : Nat) : Int) by omega];exact g1
theorem qx6 {n : Nat} (hn : n ≤ 10) {c : Config} (hc : ConfOk n c) {tl : List Int} {d1 d2 : List Member} : ∀ (suf pre : List Member) (acc : List (List Trust)) (i : Int), c.Members = pre ++ suf → acc.length = pre.length → qnh acc → q0v tl i →
  PairR n tl (z3h acc c.Members ((c.Members.length : Nat) : Int) ((pre.length : Nat) : Int) tl i d1 d2 c.Members)
 | [], pre, acc, i, e, ha, hs, h => by
  have hpos := hc.pos;have hle := hc.le;rw [List.append_nil] at e;have hal : acc.length = c.Members.length := by rw [e]; exact ha
  have hL := y4p hs (show acc.length < 1000000 by omega);have hH := qyu hs (show acc.length < 1000000 by omega);have key : ∀ lo hi, PairOk n lo hi → (bif neB (joinR false acc).2 0 then some (Config.mk c.Members, Config.mk c.Members, tl, i) else bif neB (joinR true acc).2 0 then some (Config.mk c.Members, Config.mk c.Members, tl, i) else some (Config.mk (joinR false acc).1.Members, Config.mk (joinR true acc).1.Members, tl, i)) = some (lo, hi, tl, i) → PairR n tl (z3h acc c.Members ((c.Members.length : Nat) : Int) ((pre.length : Nat) : Int) tl i d1 d2 c.Members) := by
   intro lo hi hp he;refine ⟨lo, hi, i, ?_, hp, h⟩;apply qwl;rw [q00 (by rw [e]; exact Int.le_refl _)];simp only [cF];rw [hL];simp only [bS];rw [hH];simp only [bS];exact he
  by_cases e0 : joinE false acc = 0
  ·by_cases e1 : joinE true acc = 0
   ·refine key _ _ (qui (by omega) (by omega) e0 e1) ?_;rw [show joinR false acc = (joinC false acc, 0) from by unfold joinR; rw [if_pos e0], show joinR true acc = (joinC true acc, 0) from by unfold joinR; rw [if_pos e1]];rfl
   ·refine key _ _ (PairOk.self hc) ?_;rw [show joinR false acc = (joinC false acc, 0) from by unfold joinR; rw [if_pos e0], show joinR true acc = (⟨[]⟩, joinE true acc) from by unfold joinR; rw [if_neg e1]];simp only [q08, cF, q0p e1, cT]
  ·refine key _ _ (PairOk.self hc) ?_;rw [show joinR false acc = (⟨[]⟩, joinE false acc) from by unfold joinR; rw [if_neg e0]];simp only [q0p e0, cT]
 | m :: suf, pre, acc, i, e, ha, hs, h => by
  have hpos := hc.pos;have hle := hc.le;have hd : c.Members.drop pre.length = m :: suf := by rw [e]; simp
  have hlt := q0h hd;have hm : m ∈ c.Members := by rw [e]; simp
  have go : ∀ x i, (x.length < 1000000 ∧ ∀ y ∈ x, Small y) → q0v tl i → PairR n tl (z3h (acc ++ [x]) c.Members ((c.Members.length : Nat) : Int) ((pre.length + 1 : Nat) : Int) tl i d1 d2 c.Members) := fun x i hx hi => by
   have := qx6 hn hc (d1 := d1) (d2 := d2) suf (pre ++ [m]) (acc ++ [x]) i (by rw [e]; simp) (by simp [ha]) (fun y hy => by
    rcases List.mem_append.1 hy with hy | hy
    ·exact hs y hy
    ·rw [List.mem_singleton.1 hy]; exact hx) hi
   rw [List.length_append] at this;exact this
  cases hdec : m.Declared with
  | false =>
   obtain ⟨lo, hi, j, g1, g2, g3⟩ := go [] i ⟨by simp, by simp⟩ h;refine ⟨lo, hi, j, ?_, g2, g3⟩;apply qwl;rw [q09 hd];simp only [cT, q07 hd, hdec, cF];rw [q0d (by simp [q0j]; omega), q02 (by omega)];exact g1
  | true =>
   have hv := (hc.good m hm hdec).1;obtain ⟨v, j0, k1, k2, k3, k4⟩ := N_ok (n := 3) (by decide) (by decide) h;obtain ⟨w, rfl⟩ := Int.eq_ofNat_of_zero_le k2;obtain ⟨lo, hi, j, g1, g2, g3⟩ := qxh (n := n) (b := true) hpos (by omega) (show acc.length < 100 by omega) (i0 := pre.length) (by omega) (d1 := d1) (d2 := d2) (qj1 hv) go w [m.Trust] j0 (by simp; omega) (fun y hy => by rw [List.mem_singleton.1 hy]; exact q3g hv) k4;refine ⟨lo, hi, j, ?_, g2, g3⟩;apply qwl;rw [q09 hd];simp only [cT, q07 hd, hdec];rw [q0d (by simp [q0j]), k1];simp only [bS, Trust.eta, List.nil_append];exact g1
theorem qg0 {n : Nat} (h1 : 1 ≤ n) (hn : n ≤ 10) {tl : List Int} {i : Int} (h : q0v tl i) : ∃ lo hi j, z67 (n : Int) tl i = some (lo, hi, tl, j) ∧ PairOk n lo hi ∧ q0v tl j := by
 obtain ⟨c, j, a1, a2, a3⟩ := qwi h1 hn h;obtain ⟨v, j2, b1, b2, b3, b4⟩ := N_ok (n := 2) (by decide) (by decide) a3;by_cases h0 : v = 0
 ·refine ⟨c, c, j2, ?_, PairOk.self a2, b4⟩;apply y0u;rw [a1];simp only [bS];rw [b1];simp only [bS, h0, q0o, cT]
 ·obtain ⟨lo, hi, j3, g1, g2, g3⟩ := qx6 hn a2 (d1 := []) (d2 := []) c.Members [] [] j2 rfl rfl (fun x hx => by cases hx) b4;refine ⟨lo, hi, j3, ?_, g2, g3⟩;apply y0u;rw [a1];simp only [bS];rw [b1];simp only [bS];rw [q13 h0];exact g1
theorem qs0 {a b : Int} (h : a = b) : neB a b = false := by rw [h, q08]
theorem q49 {c : Config} (hn : c.Members.length ≤ 10) : z1g c = some ((full c : Nat) : Int) := by
 apply y8s;rw [q0l (by omega), q1x hn]; rfl
theorem q44 {c : Config} (hn : c.Members.length ≤ 10) : z3g c = some ((full c : Nat) : Int) := by
 apply ya2;rw [q0l (by omega), q1x hn]; rfl
theorem qav {c : Config} {i : Nat} {m : Member} (h : c.Members[i]? = some m) (hi : i < 10) : (decl c).testBit i = m.Declared := by
 rw [Bool.eq_iff_iff, q38];exact ⟨fun ⟨_, m', h1, h2⟩ => by rw [h] at h1; cases h1; exact h2, fun h2 => ⟨hi, m, h, h2⟩⟩
theorem qjl {c : Config} {i : Nat} {m : Member} (h : c.Members[i]? = some m) : tr c i = m.Trust := by unfold tr; rw [h]; rfl
theorem ValidC.mem {c : Config} (h : ValidC c) {i : Nat} {m : Member} (hm : c.Members[i]? = some m) (hd : m.Declared = true) : valid m.Trust = true ∧ uses m.Trust < 2 ^ c.Members.length := by
 have := h.2 m (List.mem_of_getElem? hm);unfold MemV at this
 rwa [if_pos hd] at this
def impK (lo hi : Config) (k : Nat) : Bool := !(decl lo).testBit k || impB (tr hi k) (tr lo k)
def impsB (lo hi : Config) : Bool := (List.range' 0 lo.Members.length).all (impK lo hi)
def pairE (lo hi : Config) : Int :=
 if cerr lo ≠ 0 then cerr lo else if cerr hi ≠ 0 then cerr hi else if lo.Members.length ≠ hi.Members.length then 1 else if decl lo ≠ decl hi then 1
 else if 7 < lo.Members.length then 3 else if impsB lo hi = true then 0 else 14
theorem q0q {lo hi : Config} (h : pairE lo hi = 0) : ValidC lo ∧ ValidC hi ∧ lo.Members.length = hi.Members.length ∧ decl lo = decl hi ∧ lo.Members.length ≤ 7 := by
 unfold pairE at h;split at h
 ·rename_i h1; exact absurd h h1
 ·rename_i h1;split at h
  ·rename_i h2; exact absurd h h2
  ·rename_i h2;split at h
   ·cases h
   ·rename_i h3;split at h
    ·cases h
    ·rename_i h4;split at h
     ·cases h
     ·rename_i h5;exact ⟨q1z.1 (Classical.not_not.1 h1), q1z.1 (Classical.not_not.1 h2), Classical.not_not.1 h3, Classical.not_not.1 h4, by omega⟩
theorem q6w {n : Nat} {lo hi : Config} (h : PairOk n lo hi) (hn : n ≤ 7) : pairE lo hi = 0 := by
 have h1 := (h.lok.valid (by omega)).cerr;have h2 := (h.hik.valid (by omega)).cerr;have hle := h.lok.le;unfold pairE;rw [h1, h2, if_neg (by simp), if_neg (by simp), if_neg (by rw [h.len]; simp), if_neg (by rw [h.dec]; simp), if_neg (by omega), if_pos];unfold impsB;rw [List.all_eq_true];intro k _;unfold impK;cases hd : (decl lo).testBit k with
 | false => rfl
 | true => simp only [nT, Bool.false_or]; exact qr9.2 fun s hs => h.imp k s hd hs
theorem qmf {lo hi : Config} (hv : ValidC lo) (hw : ValidC hi) (hl : lo.Members.length = hi.Members.length) (hd : decl lo = decl hi) : ∀ (n i : Nat), i + n = lo.Members.length →
  z1x hi.Members ((hi.Members.length : Nat) : Int) (i : Int) lo.Members hi.Members = some (if (List.range' i n).all (impK lo hi) = true then 0 else 14)
 | 0, i, h => by
  apply y2w;rw [q00 (by omega)]; rfl
 | n + 1, i, h => by
  have hle := hv.1;have ih := qmf hv hw hl hd n (i + 1) (by omega);have g1 : lo.Members[i]? = some lo.Members[i] := List.getElem?_eq_getElem (by omega);have g2 : hi.Members[i]? = some (hi.Members[i]'(by omega)) := List.getElem?_eq_getElem (by omega);apply y2w;rw [q03 (by omega)];simp only [cT];rw [q15 (by omega) (by rw [tN]; exact g2)];have e1 := qav g1 (by omega);have e2 := qav g2 (by omega);rw [hd, e2] at e1;rw [List.range'_succ, List.all_cons, q02 (by omega), ih];cases hdec : (hi.Members[i]'(by omega)).Declared with
  | false =>
   have : impK lo hi i = true := by unfold impK; rw [hd, e2, hdec]; rfl
   rw [this]; rfl
  | true =>
   rw [hdec] at e1;obtain ⟨z, hz⟩ := qu5 (hw.mem g2 hdec).1 (hv.mem g1 e1.symm).1;have : impK lo hi i = impB (hi.Members[i]'(by omega)).Trust lo.Members[i].Trust := by unfold impK; rw [hd, e2, hdec, qjl g1, qjl g2]; simp only [nT, Bool.false_or]
   simp only [nT, cF];rw [q15 (by omega) (by rw [tN]; exact g1), hz, this];simp only [bS];cases impB (hi.Members[i]'(by omega)).Trust lo.Members[i].Trust <;> rfl
theorem qo1 {lo hi : Config} (hs : q0f lo) (hs' : q0f hi) : z46 lo hi = some (pairE lo hi) := by
 have h1 := hs.1;have h2 := hs'.1;apply y8m;rw [qcc hs];simp only [bS];unfold pairE;by_cases e1 : cerr lo = 0
 ·rw [e1, q08, if_neg (by simp), qcc hs'];simp only [cF, bS];by_cases e2 : cerr hi = 0
  ·rw [e2, q08, if_neg (by simp)];simp only [cF];by_cases e3 : lo.Members.length = hi.Members.length
   ·rw [e3, q08, if_neg (by simp), q5a lo h1, q5a hi h2];simp only [cF, bS];by_cases e4 : decl lo = decl hi
    ·rw [← e4, q08, if_neg (by simp)];simp only [cF];by_cases e5 : 7 < hi.Members.length
     ·rw [q03 (by omega), if_pos e5]; rfl
     ·rw [q00 (by omega), if_neg e5];simp only [cF];have := qmf (q1z.1 e1) (q1z.1 e2) e3 e4 lo.Members.length 0 (by omega);exact this
    ·rw [q0p (by omega), if_pos e4]; rfl
   ·rw [q0p (by omega), if_pos e3]; rfl
  ·rw [q0p e2, if_pos e2]; rfl
 ·rw [q0p e1, if_pos e1]; rfl
def impN (n : Nat) (a b : Trust) : Bool := (List.range' 0 (2 ^ n)).all fun s => !sat s a || sat s b
theorem y40 {n : Nat} (hn : n ≤ 10) {a b : Trust} (ha : uses a < 2 ^ n) (hb : uses b < 2 ^ n) : impN n a b = impB a b := by
 rw [Bool.eq_iff_iff, qr9];unfold impN;rw [List.all_eq_true];have cut : ∀ (t : Trust) (s : Nat), uses t < 2 ^ n → sat (s &&& (2 ^ n - 1)) t = sat s t := fun t s ht => qrx t fun k hk => by
  obtain ⟨i, rfl, hi, hb⟩ := qev hk;have := q1t.1 ht i hb;rw [q23 hi, q23 hi, Nat.testBit_and, this, Bool.and_true]
 constructor
 ·intro h s _ hsa;have hlt : s &&& (2 ^ n - 1) < 2 ^ n := by
   have := Nat.two_pow_pos n;have := Nat.and_le_right (n := s) (m := 2 ^ n - 1);omega
  have := h (s &&& (2 ^ n - 1)) (by rw [List.mem_range'_1]; omega);rw [cut a s ha, cut b s hb, hsa] at this;simpa using this
 ·intro h s hs;rw [List.mem_range'_1] at hs;have hp := pow10 hn;cases hsa : sat s a with
  | false => rfl
  | true => simp only [nT, Bool.false_or]; exact h s (by omega) hsa
theorem qmm {lo hi : Config} (hv : ValidC lo) {k : Nat} {m m' : Member} (g1 : lo.Members[k]? = some m) (g2 : hi.Members[k]? = some m') (s1 : Small m.Trust) (s2 : Small m'.Trust) {len r : Int} (K : z37 len ((k + 1 : Nat) : Int) lo.Members hi.Members = some r) (hk : k < 100) : ∀ (j s : Nat), s + j = 2 ^ lo.Members.length →
  z3s (k : Int) (s : Int) len (k : Int) lo.Members hi.Members = some (if ((List.range' s j).all fun s => !sat s m'.Trust || sat s m.Trust) = true then r else 14)
 | 0, s, h => by
  apply y1h;rw [show Config.mk lo.Members = lo from rfl, q44 hv.1];simp only [bS];have : full lo < s := by have := Nat.two_pow_pos lo.Members.length; unfold full; omega
  rw [q0b (by omega)];simp only [cF];rw [q02 (by omega)];exact K
 | j + 1, s, h => by
  have hp := pow10 hv.1;have ih := qmm hv g1 g2 s1 s2 K hk j (s + 1) (by omega);apply y1h;rw [show Config.mk lo.Members = lo from rfl, q44 hv.1];simp only [bS];have : s ≤ full lo := by unfold full; omega
  rw [q0e (by omega)];simp only [cT];rw [q15 (by omega) (by rw [tN]; exact g2), q46 (by omega) m'.Trust s2];simp only [bS];rw [q02 (by omega), ih, List.range'_succ, List.all_cons];cases hb : sat s m'.Trust with
  | false => rfl
  | true =>
   simp only [cT];rw [q15 (by omega) (by rw [tN]; exact g1), q46 (by omega) m.Trust s1];simp only [bS];cases sat s m.Trust <;> rfl
theorem qmb {lo hi : Config} (hv : ValidC lo) (hw : ValidC hi) (hl : lo.Members.length = hi.Members.length) (hd : decl lo = decl hi) : ∀ (n i : Nat), i + n = lo.Members.length →
  z37 ((lo.Members.length : Nat) : Int) (i : Int) lo.Members hi.Members = some (if (List.range' i n).all (impK lo hi) = true then 0 else 14)
 | 0, i, h => by
  apply y1r;rw [q00 (by omega)]; rfl
 | n + 1, i, h => by
  have hle := hv.1;have ih := qmb hv hw hl hd n (i + 1) (by omega);have g1 : lo.Members[i]? = some lo.Members[i] := List.getElem?_eq_getElem (by omega);have g2 : hi.Members[i]? = some (hi.Members[i]'(by omega)) := List.getElem?_eq_getElem (by omega);apply y1r;rw [q03 (by omega)];simp only [cT];rw [q15 (by omega) (by rw [tN]; exact g1)];have e1 := qav g1 (by omega);have e2 := qav g2 (by omega);have e3 := e1;rw [hd, e2] at e1;rw [List.range'_succ, List.all_cons, q02 (by omega)];cases hdec : lo.Members[i].Declared with
  | false =>
   have : impK lo hi i = true := by unfold impK; rw [e3, hdec]; rfl
   rw [this, ih]; rfl
  | true =>
   rw [hdec] at e1;have m1 := hv.mem g1 hdec;have m2 := hw.mem g2 e1;have : impK lo hi i = impN lo.Members.length (hi.Members[i]'(by omega)).Trust lo.Members[i].Trust := by
    rw [y40 hv.1 (by rw [hl]; exact m2.2) m1.2];unfold impK; rw [e3, hdec, qjl g1, qjl g2]; simp only [nT, Bool.false_or]
   simp only [nT, cF];have key := qmm hv g1 g2 (q3g m1.1) (q3g m2.1) ih (by omega) (2 ^ lo.Members.length) 0 (by omega);rw [this];refine Eq.trans key ?_;rw [show ((List.range' 0 (2 ^ lo.Members.length)).all fun s => !sat s (hi.Members[i]'(by omega)).Trust || sat s lo.Members[i].Trust) = impN lo.Members.length (hi.Members[i]'(by omega)).Trust lo.Members[i].Trust from rfl];cases impN lo.Members.length (hi.Members[i]'(by omega)).Trust lo.Members[i].Trust with
   | false => rfl
   | true => simp only [tA, if_true]
theorem qnu {lo hi : Config} (hs : q0f lo) (hs' : q0f hi) : z68 lo hi = some (pairE lo hi) := by
 have h1 := hs.1;have h2 := hs'.1;apply y6z;rw [qat hs];simp only [bS];unfold pairE;by_cases e1 : cerr lo = 0
 ·rw [e1, q08, if_neg (by simp), qat hs'];simp only [cF, bS];by_cases e2 : cerr hi = 0
  ·rw [e2, q08, if_neg (by simp)];simp only [cF];by_cases e3 : lo.Members.length = hi.Members.length
   ·rw [qs0 (by rw [e3]), if_neg (by rw [e3]; simp), q35 lo h1, q35 hi h2];simp only [cF, bS];by_cases e4 : decl lo = decl hi
    ·rw [qs0 (by rw [e4]), if_neg (by rw [e4]; simp)];simp only [cF];by_cases e5 : 7 < lo.Members.length
     ·rw [q03 (by omega), if_pos e5]; rfl
     ·rw [q00 (by omega), if_neg e5];simp only [cF];exact qmb (q1z.1 e1) (q1z.1 e2) e3 e4 lo.Members.length 0 (by omega)
    ·rw [q0p (by omega), if_pos e4]; rfl
   ·rw [q0p (by omega), if_pos e3]; rfl
  ·rw [q0p e2, if_pos e2]; rfl
 ·rw [q0p e1, if_pos e1]; rfl
theorem qho {c : Config} (hc : q0f c) (z : Int) : z38 c z = some (askE c z) := by
 apply y7g;rw [qcc hc];simp only [bS, askE];by_cases he : cerr c = 0
 ·rw [he, q08];simp only [cF, ne_eq, not_true, if_false];by_cases h0 : z < 0
  ·rw [q03 h0, if_pos h0]; rfl
  ·rw [q00 (by omega), if_neg h0, q49 (q1z.1 he).1];simp only [cF, bS, full];by_cases h1 : ((2 ^ c.Members.length - 1 : Nat) : Int) < z
   ·rw [q03 h1, if_pos h1]; rfl
   ·rw [q00 (by omega), if_neg h1]; rfl
 ·rw [q0p he];simp [he]
theorem qq0 {c : Config} (hv : ValidC c) (z : Int) : z6c c z = some (askE c z) := by
 apply yab;unfold askE;rw [hv.cerr, if_neg (by simp)];by_cases h0 : z < 0
 ·rw [q03 h0, if_pos h0]; rfl
 ·rw [q00 (by omega), if_neg h0, q44 hv.1];simp only [cF, bS, full];by_cases h1 : ((2 ^ c.Members.length - 1 : Nat) : Int) < z
  ·rw [q03 h1, if_pos h1]; rfl
  ·rw [q00 (by omega), if_neg h1]; rfl
def qj5 (c : Config) (z : Int) : Bool × Int := if askE c z = 0 then (!q2a c z.toNat, 0) else (false, askE c z)
def avaR (c : Config) (z : Int) : Bool × Int := if askE c z = 0 then (q9g c z.toNat, 0) else (false, askE c z)
theorem qhs {c : Config} (hc : q0f c) (z : Int) : z23 c z = some (qj5 c z) := by
 apply y5y;rw [qho hc];simp only [bS, qj5];by_cases h : askE c z = 0
 ·obtain ⟨hv, s, rfl, hs⟩ := qa9 h;rw [h, q08, qfs (q0x hv.1 hs) c hv.bears];simp only [bS, cF, if_true];rw [qy6 (q1i s hv).small (q1i s hv).cerr];rfl
 ·rw [q0p h, if_neg h]; rfl
theorem qg9 {c : Config} (hc : q0f c) (z : Int) : z22 c z = some (qj5 c z) := by
 apply y9h;rw [qat hc];simp only [bS, qj5];by_cases he : cerr c = 0
 ·rw [he, q08, qq0 (q1z.1 he)];simp only [cF, bS];by_cases h : askE c z = 0
  ·obtain ⟨hv, s, rfl, hs⟩ := qa9 h;rw [h, q08, q7w (q0x hv.1 hs) c hv.bears];simp only [bS, cF, if_true];rw [qvg (q1i s hv).small (q1i s hv).cerr];rfl
  ·rw [q0p h, if_neg h]; rfl
 ·have h : askE c z = cerr c := by unfold askE; rw [if_pos he]
  rw [q0p he, h, if_neg he]; rfl
theorem qjd {c : Config} (hn : c.Members.length ≤ 10) {s : Nat} (hs : s < 2 ^ c.Members.length) : subI .i64 ((full c : Nat) : Int) ((s : Nat) : Int) = ((ndiff (full c) s : Nat) : Int) := by
 have := q22 hn;rw [qcb (by unfold full; omega) (by omega)];unfold full;rw [qiy hs]
theorem q8f {c : Config} (hn : c.Members.length ≤ 10) {s : Nat} (hs : s < 2 ^ c.Members.length) : q1o .i64 ((full c : Nat) : Int) ((s : Nat) : Int) = ((ndiff (full c) s : Nat) : Int) := by
 have := q22 hn;have := q0x hn hs;rw [q0y (by omega) (by omega)]
theorem qx4 {c : Config} (hc : q0f c) (z : Int) : z3o c z = some (avaR c z) := by
 apply y8z;rw [qho hc];simp only [bS, avaR];by_cases h : askE c z = 0
 ·obtain ⟨hv, s, rfl, hs⟩ := qa9 h;rw [h, q08, q49 hv.1];simp only [bS, cF, if_true];rw [q8f hv.1 hs, q4g, tN];unfold q9g;cases h0 : (ndiff (full c) s == 0) with
  | true => simp
  | false =>
   simp only [cF, Bool.false_or];rw [qar (q9b hv.1 s) hv.small]; rfl
 ·rw [q0p h, if_neg h]; rfl
theorem qvd {c : Config} (hc : q0f c) (z : Int) : z5o c z = some (avaR c z) := by
 apply y8y;rw [qat hc];simp only [bS, avaR];by_cases he : cerr c = 0
 ·rw [he, q08, qq0 (q1z.1 he)];simp only [cF, bS];by_cases h : askE c z = 0
  ·obtain ⟨hv, s, rfl, hs⟩ := qa9 h;rw [h, q08, q44 hv.1];simp only [bS, cF, if_true];rw [qjd hv.1 hs, q4g, tN];unfold q9g;cases h0 : (ndiff (full c) s == 0) with
   | true => simp
   | false =>
    simp only [cF, Bool.false_or];rw [q7j (q9b hv.1 s) hv.small]; rfl
  ·rw [q0p h, if_neg h]; rfl
 ·have h : askE c z = cerr c := by unfold askE; rw [if_pos he]
  rw [q0p he, h, if_neg he]; rfl
def dE (lo hi : Config) (z : Int) : Int := if pairE lo hi = 0 then askE lo z else pairE lo hi
theorem qfe {lo hi : Config} (hs : q0f lo) (hs' : q0f hi) (z : Int) : z2z lo hi z = some (dE lo hi z) := by
 apply y8l;rw [qo1 hs hs'];simp only [bS, dE];by_cases h : pairE lo hi = 0
 ·rw [h, q08, qho hs]; rfl
 ·rw [q0p h, if_neg h]; rfl
theorem qgm {lo hi : Config} (hs : q0f lo) (hs' : q0f hi) (z : Int) : z5q lo hi z = some (dE lo hi z) := by
 apply y6j;rw [qnu hs hs'];simp only [bS, dE];by_cases h : pairE lo hi = 0
 ·rw [h, q08, qq0 (q0q h).1]; rfl
 ·rw [q0p h, if_neg h]; rfl
theorem q50 {lo hi : Config} {z : Int} (h : dE lo hi z = 0) : pairE lo hi = 0 ∧ ∃ s : Nat, z = (s : Int) ∧ s < 2 ^ lo.Members.length := by
 unfold dE at h;split at h
 ·rename_i h1; exact ⟨h1, (qa9 h).2⟩
 ·rename_i h1; exact absurd h h1
theorem qcj {lo hi : Config} (h : pairE lo hi = 0) {s : Nat} (hs : s < 2 ^ lo.Members.length) : dE lo hi (s : Int) = 0 := by
 unfold dE; rw [if_pos h, qkx (q0q h).1 hs]
theorem q5x {c : Config} (hv : ValidC c) {s : Nat} (hs : s < 2 ^ c.Members.length) : qj5 c (s : Int) = (!q2a c s, 0) := by
 unfold qj5; rw [if_pos (qkx hv hs)]; rfl
theorem qqw {c : Config} (hv : ValidC c) {s : Nat} (hs : s < 2 ^ c.Members.length) : avaR c (s : Int) = (q9g c s, 0) := by
 unfold avaR; rw [if_pos (qkx hv hs)]; rfl
theorem y3q {lo hi : Config} (h : pairE lo hi = 0) {s : Nat} (hs : s < 2 ^ lo.Members.length) : z59 lo hi (s : Int) = some (isB lo hi s) := by
 obtain ⟨hv, hw, hl, _, _⟩ := q0q h;apply y6y;rw [qx4 hw.small, qqw hw (by rw [← hl]; exact hs)];simp only [bS, isB];cases q9g hi s with
 | false => rfl
 | true =>
  simp only [nT, cF, tA];rw [qhs hv.small, q5x hv hs]; rfl
theorem y2u {lo hi : Config} (h : pairE lo hi = 0) {s : Nat} (hs : s < 2 ^ lo.Members.length) : z70 lo hi (s : Int) = some (isB lo hi s) := by
 obtain ⟨hv, hw, hl, _, _⟩ := q0q h;apply y6o;rw [qvd hw.small, qqw hw (by rw [← hl]; exact hs)];simp only [bS, isB];cases q9g hi s with
 | false => rfl
 | true =>
  simp only [nT, cF, tA];rw [qg9 hv.small, q5x hv hs]; rfl
def isR (lo hi : Config) (z : Int) : Bool × Int := if dE lo hi z = 0 then (isB lo hi z.toNat, 0) else (false, dE lo hi z)
theorem ya4 {lo hi : Config} (hs : q0f lo) (hs' : q0f hi) (z : Int) : z5t lo hi z = some (isR lo hi z) := by
 apply y7h;rw [qfe hs hs'];simp only [bS, isR];by_cases h : dE lo hi z = 0
 ·obtain ⟨h0, s, rfl, hlt⟩ := q50 h;rw [h, q08, y3q h0 hlt]; rfl
 ·rw [q0p h, if_neg h]; rfl
theorem y6h {lo hi : Config} (hs : q0f lo) (hs' : q0f hi) (z : Int) : z76 lo hi z = some (isR lo hi z) := by
 apply y7b;rw [qgm hs hs'];simp only [bS, isR];by_cases h : dE lo hi z = 0
 ·obtain ⟨h0, s, rfl, hlt⟩ := q50 h;rw [h, q08, y2u h0 hlt]; rfl
 ·rw [q0p h, if_neg h]; rfl
theorem qwx {lo hi : Config} (h : pairE lo hi = 0) {s : Nat} (hs : s < 2 ^ lo.Members.length) : isR lo hi (s : Int) = (isB lo hi s, 0) := by
 unfold isR; rw [if_pos (qcj h hs)]; rfl
theorem qdt {a b : Nat} : (a &&& b == b) = (ndiff b a == 0) := by
 rw [Bool.eq_iff_iff, beq_iff_eq, beq_iff_eq, q1j];constructor
 ·intro h i hi;rw [← h, Nat.testBit_and, aT] at hi; exact hi.1
 ·intro h;exact (Sub.and_right a b).antisymm fun i hi => by rw [Nat.testBit_and, h i hi, hi]; rfl
theorem qlp (a b : Nat) : eqB (a : Int) (b : Int) = (a == b) := by
 by_cases h : a = b
 ·rw [h, q0o]; simp
 ·rw [q13 (by omega)]; simp [h]
theorem qvo {lo hi : Config} (h : pairE lo hi = 0) {ill : Nat} (hill : ill < 2 ^ lo.Members.length) {l : List Nat} (hl : l.length ≤ 1024) (hm : ∀ s ∈ l, s < 2 ^ lo.Members.length) : ∀ (suf pre : List Nat), l = pre ++ suf →
  z1w (ill : Int) ((pre.filter fun b => ndiff ill b == 0 && isB lo hi b).map Int.ofNat) (l.map Int.ofNat) ((l.length : Nat) : Int) ((pre.length : Nat) : Int) lo.Members hi.Members = some ((l.filter fun b => ndiff ill b == 0 && isB lo hi b).map Int.ofNat, 0)
 | [], pre, e => by
  rw [List.append_nil] at e;subst e;apply y1e;rw [q00 (Int.le_refl _)]; rfl
 | b :: suf, pre, e => by
  have hn := (q0q h).1.1;have hd : (l.map Int.ofNat).drop pre.length = (b : Int) :: suf.map Int.ofNat := q0w (by rw [e]; simp);have hlt : pre.length < l.length := by rw [e]; simp
  have hb := hm b (by rw [e]; simp);have hb' := q0x hn hb;have hi' := q0x hn hill;have hfl := List.length_filter_le (fun b => ndiff ill b == 0 && isB lo hi b) pre;have ih := qvo h hill hl hm suf (pre ++ [b]) (by rw [e]; simp);rw [List.filter_append, List.map_append, List.length_append] at ih;apply y1e;rw [q03 (by omega)];simp only [cT, q07 hd];rw [q0y (by omega) (by omega), q4g, q02 (by omega)];cases h1 : (ndiff ill b == 0) with
  | false =>
   rw [List.filter_cons, h1] at ih;simp only [Bool.false_and, fT, if_false, List.filter_nil, List.map_nil, List.append_nil] at ih;exact ih
  | true =>
   simp only [cT];rw [show Config.mk lo.Members = lo from rfl, show Config.mk hi.Members = hi from rfl, y3q h hb];simp only [bS];cases h2 : isB lo hi b with
   | false =>
    rw [List.filter_cons, h1, h2] at ih;simp only [tA, fT, if_false, List.filter_nil, List.map_nil, List.append_nil] at ih;exact ih
   | true =>
    rw [List.filter_cons, h1, h2] at ih;simp only [tA, if_true, List.filter_nil] at ih;rw [q0d (by simp [q0j]; omega)];exact ih
theorem qx3 {lo hi : Config} (h : pairE lo hi = 0) {ill : Nat} (hill : ill < 2 ^ lo.Members.length) {l : List Nat} (hl : l.length ≤ 1024) (hm : ∀ s ∈ l, s < 2 ^ lo.Members.length) : ∀ (suf pre : List Nat), l = pre ++ suf →
  z3x (ill : Int) ((pre.filter fun b => ndiff ill b == 0 && isB lo hi b).map Int.ofNat) (l.map Int.ofNat) ((l.length : Nat) : Int) ((pre.length : Nat) : Int) lo.Members hi.Members = some ((l.filter fun b => ndiff ill b == 0 && isB lo hi b).map Int.ofNat, 0)
 | [], pre, e => by
  rw [List.append_nil] at e;subst e;apply y0t;rw [q00 (Int.le_refl _)]; rfl
 | b :: suf, pre, e => by
  have hn := (q0q h).1.1;have hd : (l.map Int.ofNat).drop pre.length = (b : Int) :: suf.map Int.ofNat := q0w (by rw [e]; simp);have hlt : pre.length < l.length := by rw [e]; simp
  have hb := hm b (by rw [e]; simp);have hb' := q0x hn hb;have hi' := q0x hn hill;have hfl := List.length_filter_le (fun b => ndiff ill b == 0 && isB lo hi b) pre;have ih := qx3 h hill hl hm suf (pre ++ [b]) (by rw [e]; simp);rw [List.filter_append, List.map_append, List.length_append] at ih;apply y0t;rw [q03 (by omega)];simp only [cT, q07 hd];rw [q17 (by omega) (by omega), qlp, qdt, q02 (by omega)];cases h1 : (ndiff ill b == 0) with
  | false =>
   rw [List.filter_cons, h1] at ih;simp only [Bool.false_and, fT, if_false, List.filter_nil, List.map_nil, List.append_nil] at ih;exact ih
  | true =>
   simp only [cT];rw [show Config.mk lo.Members = lo from rfl, show Config.mk hi.Members = hi from rfl, y2u h hb];simp only [bS];cases h2 : isB lo hi b with
   | false =>
    rw [List.filter_cons, h1, h2] at ih;simp only [tA, fT, if_false, List.filter_nil, List.map_nil, List.append_nil] at ih;exact ih
   | true =>
    rw [List.filter_cons, h1, h2] at ih;simp only [tA, if_true, List.filter_nil] at ih;rw [q0d (by simp [q0j]; omega)];exact ih
def allR (lo hi : Config) (z : Int) : List Int × Int := if dE lo hi z = 0 then ((alls lo hi z.toNat).map Int.ofNat, 0) else ([], dE lo hi z)
theorem qh9 {c : Config} {s : Nat} (h : s ∈ q1q (full c)) : s < 2 ^ c.Members.length := q2o.2 (q0s.1 h)
theorem y4e {lo hi : Config} (hs : q0f lo) (hs' : q0f hi) (z : Int) : z5n lo hi z = some (allR lo hi z) := by
 apply y87;rw [qfe hs hs'];simp only [bS, allR];by_cases h : dE lo hi z = 0
 ·obtain ⟨h0, s, rfl, hlt⟩ := q50 h;have hn := (q0q h0).1.1;rw [h, q08, q49 hn];simp only [cF, bS];rw [qg1 (q22 hn)];simp only [bS, List.length_map];exact qvo h0 hlt (q4x (q22 hn)) (fun s hs => qh9 hs) _ [] rfl
 ·rw [q0p h, if_neg h]; rfl
theorem y4v {lo hi : Config} (hs : q0f lo) (hs' : q0f hi) (z : Int) : z61 lo hi z = some (allR lo hi z) := by
 apply y7w;rw [qgm hs hs'];simp only [bS, allR];by_cases h : dE lo hi z = 0
 ·obtain ⟨h0, s, rfl, hlt⟩ := q50 h;have hn := (q0q h0).1.1;rw [h, q08, q44 hn];simp only [cF, bS];rw [qbm (q22 hn)];simp only [bS, List.length_map];exact qx3 h0 hlt (q4x (q22 hn)) (fun s hs => qh9 hs) _ [] rfl
 ·rw [q0p h, if_neg h]; rfl
theorem qqv {lo hi : Config} (h : pairE lo hi = 0) {s : Nat} (hs : s < 2 ^ lo.Members.length) : allR lo hi (s : Int) = ((alls lo hi s).map Int.ofNat, 0) := by
 unfold allR; rw [if_pos (qcj h hs)]; rfl
theorem qse {lo hi : Config} (hn : lo.Members.length ≤ 10) (ill : Nat) : (alls lo hi ill).length ≤ 1024 :=
 Nat.le_trans (List.length_filter_le _ _) (q4x (q22 hn))
theorem qxy {lo hi : Config} {ill s : Nat} (h : s ∈ alls lo hi ill) : s < 2 ^ lo.Members.length := q2o.2 (q2j.1 h).1
theorem qrp {hi : Config} (hw : ValidC hi) {v s : Nat} (hv : v < hi.Members.length) (hs : s < 2 ^ hi.Members.length) : z49 hi (v : Int) (s : Int) = some (q4n hi s v) := by
 have g : hi.Members[v]? = some hi.Members[v] := List.getElem?_eq_getElem hv;have hle := hw.1;have e := qav g (by omega);apply y8g;rw [q15 (by omega) (by rw [tN]; exact g)];unfold q4n;rw [e, qjl g];cases hd : hi.Members[v].Declared with
 | false => rfl
 | true =>
  simp only [nT, cF, Bool.false_or];rw [q49 hle];simp only [bS];rw [q8f hle hs, q3k (q9b hle s) _ (q3g (hw.mem g hd).1)]; rfl
def qvj (hi : Config) (s : Nat) (k : Int) : Bool := has (ndiff (full hi) s) k && q4n hi s k.toNat
theorem y0a {hi : Config} (hw : ValidC hi) {s : Nat} (hs : s < 2 ^ hi.Members.length) (k : Int) : z6t hi (s : Int) k = some (qvj hi s k) := by
 have hle := hw.1;have hs' := q0x hle hs;apply y6v;unfold qvj;by_cases h0 : k < 0
 ·rw [q03 h0];have : has (ndiff (full hi) s) k = false := by unfold has; rw [decide_eq_false (by omega)]; rfl
  rw [this]; rfl
 ·obtain ⟨v, rfl⟩ := Int.eq_ofNat_of_zero_le (show 0 ≤ k by omega);rw [q00 (by omega)];by_cases h1 : hi.Members.length ≤ v
  ·rw [q0e (by omega)];have : has (ndiff (full hi) s) (v : Int) = false := by
    cases hh : has (ndiff (full hi) s) (v : Int) with
    | false => rfl
    | true =>
     obtain ⟨n, e, _, hb⟩ := qev hh;rw [q04, aT, q83, dT'] at hb;have := Int.ofNat.inj e; omega
   rw [this]; rfl
  ·have hv : v < hi.Members.length := by omega
   have hfv : (full hi).testBit v = true := by rw [q83, dT']; exact hv
   have g : hi.Members[v]? = some hi.Members[v] := List.getElem?_eq_getElem hv;have e := qav g (by omega);rw [q0b (by omega), q12 hs', q23 (by omega), q23 (by omega), q04, hfv];simp only [cF, bS, tN, tA];cases hb : s.testBit v with
   | true => rfl
   | false =>
    simp only [cF, Bool.not_false, tA];rw [q15 (by omega) (by rw [tN]; exact g)];unfold q4n;rw [e, qjl g];cases hd : hi.Members[v].Declared with
    | false => rfl
    | true =>
     simp only [nT, cF, Bool.false_or];rw [q15 (by omega) (by rw [tN]; exact g), q44 hle];simp only [bS];rw [qjd hle hs, q46 (q9b hle s) _ (q3g (hw.mem g hd).1)]; rfl
def refT (r : Int × Int × Int × Int) : Refutation × Int := (⟨r.1, r.2.1, r.2.2.1⟩, r.2.2.2)
def refuR (lo hi : Config) (z : Int) : Refutation × Int := if dE lo hi z = 0 then refT (refR lo hi z.toNat) else (⟨0, 0, 0⟩, dE lo hi z)
theorem qyp {lo hi : Config} (_hv : ValidC lo) {s : Nat} (h : (nodes (ndiff (full hi) s)).find? (q4n hi s) = none) (e : Int) :
  (bif neB (disjR (delC s lo)).2.2 0 then some (Refutation.mk 0 0 0, if e = 0 then (disjR (delC s lo)).2.2 else 11) else some (Refutation.mk (-1) (disjR (delC s lo)).1 (disjR (delC s lo)).2.1, 0)) = some (refT (refR lo hi s)) := by
 unfold refR refT disjR;rw [h];cases twoB (delC s lo) with
 | true => rfl
 | false =>
  simp only [fT, if_false];rw [q0p (by decide)];simp
theorem qy8 {lo hi : Config} (h : pairE lo hi = 0) {s : Nat} (hs : s < 2 ^ lo.Members.length) {d1 d2 d3 : Int} {l : List Nat} (hl : l.length ≤ 10) (hall : (l.find? (q4n hi s)) = (nodes (ndiff (full hi) s)).find? (q4n hi s)) (hm : ∀ v ∈ l, v < hi.Members.length) : ∀ (suf : List Nat) (i : Nat), l.drop i = suf → suf.find? (q4n hi s) = l.find? (q4n hi s) →
  z2c (s : Int) (l.map Int.ofNat) ((l.length : Nat) : Int) (i : Int) lo.Members hi.Members d1 d2 d3 = some (refT (refR lo hi s))
 | [], i, hd, hf => by
  obtain ⟨hv, hw, hlen, _, _⟩ := q0q h;have hno : (nodes (ndiff (full hi) s)).find? (q4n hi s) = none := by rw [← hall, ← hf]; rfl
  apply y2j;rw [q0k hd, show Config.mk lo.Members = lo from rfl, qfs (q0x hv.1 hs) lo hv.bears];simp only [cF, bS];rw [qe1 (q1i s hv).small (q1i s hv).cerr];simp only [bS];have := qyp hv hno 0;simpa using this
 | v :: suf, i, hd, hf => by
  obtain ⟨hv, hw, hlen, _, _⟩ := q0q h;have hlt := q0h hd;have hvm := hm v (List.mem_of_mem_drop (by rw [hd]; exact List.mem_cons_self));apply y2j;rw [q09 hd];simp only [cT, q07 (q0w hd)];rw [show Config.mk hi.Members = hi from rfl, qrp hw hvm (by rw [← hlen]; exact hs)];simp only [bS];cases hn : q4n hi s v with
  | true =>
   have : (nodes (ndiff (full hi) s)).find? (q4n hi s) = some v := by rw [← hall, ← hf, List.find?_cons, hn]
   unfold refR refT;rw [this]; rfl
  | false =>
   simp only [cF];rw [q02 (by omega)];exact qy8 h hs hl hall hm suf (i + 1) (q05 hd) (by rw [← hf, List.find?_cons, hn])
theorem qtz {lo hi : Config} (hs : q0f lo) (hs' : q0f hi) (z : Int) : z4q lo hi z = some (refuR lo hi z) := by
 apply y9u;rw [qfe hs hs'];simp only [bS, refuR];by_cases h : dE lo hi z = 0
 ·obtain ⟨h0, s, rfl, hlt⟩ := q50 h;obtain ⟨hv, hw, hlen, _, _⟩ := q0q h0;rw [h, q08, q49 hw.1];simp only [cF, bS, if_true, tN];rw [q8f hw.1 (by rw [← hlen]; exact hlt), qd1 (q9b hw.1 s)];simp only [bS, List.length_map];exact qy8 h0 hlt (q57 _) rfl (fun v hv => by
   have := (q1n.1 hv).1;rw [q04, aT, q83, dT'] at this;exact this.1) _ 0 rfl rfl
 ·rw [q0p h, if_neg h]; rfl
theorem qfk {c : Config} (hc : q0f c) (z : Int) : z1t c z = some (quoZ c z) := by
 unfold quoZ;cases h : okS z with
 | true =>
  obtain ⟨s, rfl, hs⟩ := qr3 h;rw [qar hs hc]; rfl
 | false =>
  apply y22;rw [q6c, h]; rfl
theorem qfb {c : Config} (hc : q0f c) (z : Int) : z1a c z = some (quoZ c z) := by
 unfold quoZ;cases h : okS z with
 | true =>
  obtain ⟨s, rfl, hs⟩ := qr3 h;rw [q7j hs hc]; rfl
 | false =>
  apply qqu;rw [qgp, h]; rfl
theorem qcy {c : Config} {a b : Int} (ha : quoZ c a = true) (hb : quoZ c b = true) : eqB (andI .i64 a b) 0 = (a.toNat &&& b.toNat == 0) := by
 obtain ⟨s, rfl, hs⟩ := qdn ha;obtain ⟨t, rfl, ht⟩ := qdn hb;have := qhg hs;have := qhg ht;rw [q17 (by omega) (by omega), q4g]; rfl
def chkR (lo hi : Config) (z : Int) (x : Refutation) : Bool := dE lo hi z == 0 && chkB lo hi z.toNat x.Node x.A x.B
theorem qzx {hi : Config} {s : Nat} {x : Int} (h : has (ndiff (full hi) s) x = true) : ∃ v : Nat, x = (v : Int) ∧ v < hi.Members.length := by
 obtain ⟨v, rfl, _, hb⟩ := qev h;rw [q04, aT, q83, dT'] at hb;exact ⟨v, rfl, hb.1⟩
theorem qug {lo hi : Config} (hs : q0f lo) (hs' : q0f hi) (z : Int) (x : Refutation) : z51 lo hi z x = some (chkR lo hi z x) := by
 apply y9p;rw [qfe hs hs'];simp only [bS, chkR];by_cases h : dE lo hi z = 0
 ·obtain ⟨h0, s, rfl, hlt⟩ := q50 h;obtain ⟨hv, hw, hlen, _, _⟩ := q0q h0;rw [h, q08];simp only [cF, beq_self_eq_true, tA, tN, chkB];by_cases hx : 0 ≤ x.Node
  ·rw [q0e hx, if_pos hx];simp only [cT];by_cases hA : x.A = 0
   ·rw [hA, q0o];by_cases hB : x.B = 0
    ·rw [hB, q0o, q49 hw.1];simp only [cT, bS, decide_true, tA];rw [q8f hw.1 (by rw [← hlen]; exact hlt), q14 (q9b hw.1 s)];simp only [bS];cases hh : has (ndiff (full hi) s) x.Node with
     | false => rfl
     | true =>
      obtain ⟨v, ev, hvm⟩ := qzx hh;rw [ev, qrp hw hvm (by rw [← hlen]; exact hlt)]; rfl
    ·rw [q13 hB, decide_eq_false hB]; rfl
   ·rw [q13 hA, decide_eq_false hA]; rfl
  ·rw [q0b (by omega), if_neg hx, qfs (q0x hv.1 hlt) lo hv.bears];simp only [cF, bS];by_cases h1 : x.Node = -1
   ·rw [h1, q0o, qfk (q1i s hv).small, qfk (q1i s hv).small];simp only [cT, bS, decide_true, tA];cases hA : quoZ (delC s lo) x.A with
    | false => rfl
    | true =>
     simp only [cT, tA];cases hB : quoZ (delC s lo) x.B with
     | false => rfl
     | true => simp only [cT, tA, qcy hA hB]
   ·rw [q13 h1, decide_eq_false h1]; rfl
 ·rw [q0p h, beq_eq_false_iff_ne.2 h]; rfl
theorem qwr {lo hi : Config} (hs : q0f lo) (hs' : q0f hi) (z : Int) (x : Refutation) : z6s lo hi z x = some (chkR lo hi z x) := by
 apply y8j;rw [qgm hs hs'];simp only [bS, chkR];by_cases h : dE lo hi z = 0
 ·obtain ⟨h0, s, rfl, hlt⟩ := q50 h;obtain ⟨hv, hw, hlen, _, _⟩ := q0q h0;rw [h, q08];simp only [cF, beq_self_eq_true, tA, tN, chkB];by_cases h1 : x.Node = -1
  ·rw [h1, q08, if_neg (by decide), q7w (q0x hv.1 hlt) lo hv.bears];simp only [cF, bS];rw [qfb (q1i s hv).small, qfb (q1i s hv).small];simp only [bS, decide_true, tA];cases hA : quoZ (delC s lo) x.A with
   | false => rfl
   | true =>
    simp only [cT, tA];cases hB : quoZ (delC s lo) x.B with
    | false => rfl
    | true => simp only [cT, tA, qcy hA hB]
  ·rw [q0p h1, y0a hw (by rw [← hlen]; exact hlt)];simp only [cT, bS];unfold qvj;by_cases hx : 0 ≤ x.Node
   ·rw [if_pos hx];cases hh : (has (ndiff (full hi) s) x.Node && q4n hi s x.Node.toNat) with
    | false => simp
    | true =>
     simp only [cT];by_cases hA : x.A = 0
     ·rw [hA, q0o];by_cases hB : x.B = 0
      ·rw [hB, q0o]; rfl
      ·rw [q13 hB]; simp [hB]
     ·rw [q13 hA]; simp [hA]
   ·rw [if_neg hx, decide_eq_false h1];have : has (ndiff (full hi) s) x.Node = false := by unfold has; rw [decide_eq_false hx]; rfl
    rw [this]; rfl
 ·rw [q0p h, beq_eq_false_iff_ne.2 h]; rfl
theorem q39 {c : Config} (hn : c.Members.length ≤ 10) : z2a c = some ((full c : Nat) : Int) := by
 apply y8i;rw [q0l (by omega), q1x hn]; rfl
theorem qep {c : Config} (hn : c.Members.length ≤ 10) : z5l c = some ((full c : Nat) : Int) := by
 apply y97;rw [q0l (by omega), q1x hn]; rfl
def inta (lo hi : Config) (ill : Nat) : Nat := ndiff (full lo) (bef lo hi ill)
theorem q32 (lo hi : Config) (ill : Nat) : Sub (inta lo hi ill) (full lo) := fun i hi => by
 unfold inta at hi;rw [q04, aT] at hi; exact hi.1
theorem qhw {a b : Nat} (h : Sub b a) : ndiff a (ndiff a b) = b := by
 apply Nat.eq_of_testBit_eq;intro i;rw [q04, q04];cases hb : b.testBit i with
 | true => rw [h i hb]; rfl
 | false => cases a.testBit i <;> rfl
theorem qg4 (lo hi : Config) (ill : Nat) : Sub (bef lo hi ill) (full lo) := by
 unfold bef; split
 ·exact Sub.refl _
 ·exact (qjw _ _).1
def ofR (lo hi : Config) (z : Int) : Int × Bool × Int := if dE lo hi z = 0 then (((inta lo hi z.toNat : Nat) : Int), !q2a lo z.toNat, 0) else (0, false, dE lo hi z)
theorem y3b {lo hi : Config} (hn : lo.Members.length ≤ 10) {l : List Nat} (hl : l.length ≤ 1024) (hlt : ∀ s ∈ l, s < 1024) : ∀ (suf : List Nat) (i a : Nat), l.drop i = suf → a < 1024 →
  z5g (a : Int) (l.map Int.ofNat) ((l.length : Nat) : Int) (i : Int) lo.Members hi.Members = some (((ndiff (full lo) (ands suf a) : Nat) : Int), true, 0)
 | [], i, a, h, ha => by
  have hf := q22 hn;apply y0l;rw [q0k h, show Config.mk lo.Members = lo from rfl, q39 hn];simp only [cF, bS];rw [q0y (by omega) (by omega)]; rfl
 | b :: suf, i, a, h, ha => by
  have h1 := q0h h;have hb := hlt b (List.mem_of_mem_drop (by rw [h]; exact List.mem_cons_self));apply y0l;rw [q09 h];simp only [cT, q07 (q0w h)];rw [q17 (by omega) (by omega), q02 (by omega)];exact y3b hn hl hlt suf (i + 1) (a &&& b) (q05 h) (qlk ha)
theorem qv0 {lo hi : Config} (hs : q0f lo) (hs' : q0f hi) (z : Int) : z6b lo hi z = some (ofR lo hi z) := by
 apply yac;rw [y4e hs hs'];simp only [bS, ofR];by_cases h : dE lo hi z = 0
 ·obtain ⟨h0, s, rfl, hlt⟩ := q50 h;obtain ⟨hv, hw, hlen, _, _⟩ := q0q h0;rw [qqv h0 hlt, qhs hs, q5x hv hlt, if_pos h];simp only [bS, q08, cF, Bool.not_not, tN];cases hsp : q2a lo s with
  | true =>
   have : inta lo hi s = 0 := by unfold inta bef; rw [hsp]; exact q1j.2 (Sub.refl _)
   rw [this]; rfl
  | false =>
   simp only [cF];rw [q39 hv.1];simp only [bS, List.length_map];have := y3b (hi := hi) hv.1 (qse (hi := hi) hv.1 s) (fun x hx => q0x hv.1 (qxy hx)) (alls lo hi s) 0 (full lo) rfl (q22 hv.1);refine Eq.trans this ?_;unfold inta bef;rw [hsp]; rfl
 ·have : (allR lo hi z) = ([], dE lo hi z) := by unfold allR; rw [if_neg h]
  rw [this, if_neg h, q0p h]; rfl
def oneR (lo hi : Config) (f : Nat → Nat) (z : Int) : Int × Int := if dE lo hi z = 0 then (((f z.toNat : Nat) : Int), 0) else (0, dE lo hi z)
theorem qba {lo hi : Config} (hs : q0f lo) (hs' : q0f hi) (z : Int) : z2f lo hi z = some (oneR lo hi (inta lo hi) z) := by
 apply y9x;rw [qv0 hs hs'];simp only [bS, ofR, oneR];split <;> rfl
theorem qos {lo hi : Config} (hs : q0f lo) (hs' : q0f hi) (z : Int) : z3d lo hi z = some (oneR lo hi (bef lo hi) z) := by
 apply y9f;rw [qv0 hs hs'];simp only [bS, ofR, oneR];by_cases h : dE lo hi z = 0
 ·obtain ⟨h0, s, rfl, hlt⟩ := q50 h;obtain ⟨hv, hw, hlen, _, _⟩ := q0q h0;have hf := q22 hv.1;have hi' := (q32 lo hi s).lt hf;rw [if_pos h, if_pos h];simp only [q08, cF, tN];rw [q39 hv.1];simp only [bS];rw [q0y (by omega) (by omega)];unfold inta;rw [qhw (qg4 lo hi s)]
 ·rw [if_neg h, if_neg h];simp only [q0p h, cT]
theorem qxd {lo hi : Config} (hs : q0f lo) (hs' : q0f hi) (z : Int) : z6p lo hi z = some (dE lo hi z) := by
 apply y7x;rw [qnu hs hs'];simp only [bS, dE];by_cases h : pairE lo hi = 0
 ·obtain ⟨hv, _, _, _, _⟩ := q0q h;rw [h, q08];simp only [cF, if_true, askE];rw [hv.cerr, if_neg (by simp)];by_cases h0 : z < 0
  ·rw [q03 h0, if_pos h0]; rfl
  ·rw [q00 (by omega), if_neg h0, qep hv.1];simp only [cF, bS, full];by_cases h1 : ((2 ^ lo.Members.length - 1 : Nat) : Int) < z
   ·rw [q03 h1, if_pos h1]; rfl
   ·rw [q00 (by omega), if_neg h1]; rfl
 ·rw [q0p h, if_neg h]; rfl
theorem q3t {lo hi : Config} (h : pairE lo hi = 0) {s : Nat} (hs : s < 2 ^ lo.Members.length) (f : Nat → Nat) : oneR lo hi f (s : Int) = (((f s : Nat) : Int), 0) := by
 unfold oneR; rw [if_pos (qcj h hs)]; rfl
def folN (lo hi : Config) (ill s : Nat) : Option Nat := (nodes (ndiff (inta lo hi ill) s)).find? fun v => blk lo v (inta lo hi ill &&& s)
def folT : Option Nat → Int × Bool × Int
 | some v => ((v : Int), true, 0)
 | none => (-1, false, 0)
def folR (lo hi : Config) (z s : Int) : Int × Bool × Int :=
 if dE lo hi z = 0 then (if s < 0 then (0, false, 1) else if ((full lo : Nat) : Int) < s then (0, false, 1) else folT (folN lo hi z.toNat s.toNat)) else (0, false, dE lo hi z)
theorem qxq {lo hi : Config} (hs : q0f lo) {a s : Nat} (ha : a < 1024) (hs' : s < 1024) {l : List Nat} (hl : l.length ≤ 10) : ∀ (suf : List Nat) (i : Nat), l.drop i = suf →
  z3b (s : Int) (a : Int) (l.map Int.ofNat) ((l.length : Nat) : Int) (i : Int) lo.Members hi.Members = some (folT (suf.find? fun v => blk lo v (a &&& s)))
 | [], i, h => by
  apply y2y;rw [q0k h]; rfl
 | v :: suf, i, h => by
  have h1 := q0h h;apply y2y;rw [q09 h];simp only [cT, q07 (q0w h)];rw [q17 (by omega) (by omega), show Config.mk lo.Members = lo from rfl, qth hs (qlk ha)];simp only [bS, List.find?_cons];cases blk lo v (a &&& s) with
  | true => rfl
  | false =>
   simp only [cF];rw [q02 (by omega)];exact qxq hs ha hs' hl suf (i + 1) (q05 h)
theorem qvb {lo hi : Config} (hs : q0f lo) (hs' : q0f hi) (z s : Int) : z36 lo hi z s = some (folR lo hi z s) := by
 apply y7l;rw [qba hs hs'];simp only [bS, folR, oneR];by_cases h : dE lo hi z = 0
 ·obtain ⟨h0, ill, rfl, hlt⟩ := q50 h;obtain ⟨hv, hw, hlen, _, _⟩ := q0q h0;rw [if_pos h, if_pos h];simp only [q08, cF, tN];by_cases s0 : s < 0
  ·rw [q03 s0, if_pos s0]; rfl
  ·rw [q00 (by omega), if_neg s0, q39 hv.1];simp only [cF, bS];by_cases s1 : ((full lo : Nat) : Int) < s
   ·rw [q03 s1, if_pos s1]; rfl
   ·obtain ⟨t, rfl⟩ := Int.eq_ofNat_of_zero_le (show 0 ≤ s by omega);have hf := q22 hv.1;have ha := (q32 lo hi ill).lt hf;rw [q00 (by omega), if_neg s1, q0y (by omega) (by omega), qd1 (q1g ha)];simp only [cF, bS, List.length_map];exact qxq hs ha (by omega) (q57 _) _ 0 rfl
 ·rw [if_neg h, if_neg h];simp only [q0p h, cT]
def btw (c : Config) (ill v : Nat) : List Nat := (q1q (full c)).filter fun b => ndiff ill b == 0 && !b.testBit v
theorem qkd {c : Config} {ill v b : Nat} : b ∈ btw c ill v ↔ Sub b (full c) ∧ Sub ill b ∧ b.testBit v = false := by
 unfold btw;rw [List.mem_filter, q0s, aT, beq_iff_eq, q1j, Bool.not_eq_true']
theorem y6g {c : Config} {ill v : Nat} : (q1q (ndiff (full c) (2 ^ v))).filter (fun b => ndiff ill b == 0) = btw c ill v := by
 refine qdu ((q2z _).sublist List.filter_sublist) ((q2z _).sublist List.filter_sublist) fun s => ?_
 rw [qkd, List.mem_filter, q0s, beq_iff_eq, q1j];constructor
 ·rintro ⟨h1, h2⟩;have hs : ∀ i, s.testBit i = true → (full c).testBit i = true ∧ ¬ v = i := fun i hi => by
   have := h1 i hi;rw [q04, q41, aT, Bool.not_eq_true', decide_eq_false_iff_not] at this; exact this
  refine ⟨fun i hi => (hs i hi).1, h2, ?_⟩;cases hv : s.testBit v with
  | false => rfl
  | true => exact absurd rfl (hs v hv).2
 ·rintro ⟨h1, h2, h3⟩;refine ⟨fun i hi => ?_, h2⟩;rw [q04, q41, h1 i hi];have : v ≠ i := fun e => by rw [← e, h3] at hi; cases hi
  simp [this]
theorem qoh {c : Config} (hn : c.Members.length ≤ 10) (ill v : Nat) : (btw c ill v).length ≤ 1024 := Nat.le_trans (List.length_filter_le _ _) (q4x (q22 hn))
theorem y7u {c : Config} {ill v b : Nat} (h : b ∈ btw c ill v) : b < 2 ^ c.Members.length := q2o.2 (qkd.1 h).1
theorem qww {ms : List Member} {ill : Nat} (hill : ill < 1024) {l : List Nat} (hl : l.length ≤ 1024) (hm : ∀ s ∈ l, s < 1024) : ∀ (suf pre : List Nat), l = pre ++ suf →
  z2r (ill : Int) ((pre.filter fun b => ndiff ill b == 0).map Int.ofNat) (l.map Int.ofNat) ((l.length : Nat) : Int) ((pre.length : Nat) : Int) ms = some ((l.filter fun b => ndiff ill b == 0).map Int.ofNat)
 | [], pre, e => by
  rw [List.append_nil] at e;subst e;apply y28;rw [q00 (Int.le_refl _)]; rfl
 | b :: suf, pre, e => by
  have hd : (l.map Int.ofNat).drop pre.length = (b : Int) :: suf.map Int.ofNat := q0w (by rw [e]; simp);have hlt : pre.length < l.length := by rw [e]; simp
  have hb := hm b (by rw [e]; simp);have hfl := List.length_filter_le (fun b => ndiff ill b == 0) pre;have ih := qww (ms := ms) hill hl hm suf (pre ++ [b]) (by rw [e]; simp);rw [List.filter_append, List.map_append, List.length_append] at ih;apply y28;rw [q03 (by omega)];simp only [cT, q07 hd];rw [q0y (by omega) (by omega), q4g, q02 (by omega)];cases h1 : (ndiff ill b == 0) with
  | false =>
   rw [List.filter_cons, h1] at ih;simp only [fT, if_false, List.filter_nil, List.map_nil, List.append_nil] at ih;exact ih
  | true =>
   rw [List.filter_cons, h1] at ih;simp only [if_true, List.filter_nil] at ih;simp only [cT];rw [q0d (by simp [q0j]; omega)];exact ih
theorem qwq {c : Config} (hn : c.Members.length ≤ 10) {ill v : Nat} (hill : ill < 1024) (hv : v < 10) : z58 c (ill : Int) (v : Int) = some ((btw c ill v).map Int.ofNat) := by
 have hf := q22 hn;have hp := qdw hv;apply y88;rw [q0l (by omega), q39 hn];simp only [bS];rw [shl1 (by omega) (by omega), tN, q0y (by omega) (by omega), qg1 (q1g hf)];simp only [bS, List.length_map];rw [← y6g];exact qww hill (q4x (q1g hf)) (fun s hs => (q0s.1 hs).lt (q1g hf)) _ [] rfl
theorem quz {ms : List Member} {ill v : Nat} (hill : ill < 1024) (hv : v < 10) {l : List Nat} (hl : l.length ≤ 1024) (hm : ∀ s ∈ l, s < 1024) : ∀ (suf pre : List Nat), l = pre ++ suf →
  z2m (ill : Int) (v : Int) ((pre.filter fun b => ndiff ill b == 0 && !b.testBit v).map Int.ofNat) (l.map Int.ofNat) ((l.length : Nat) : Int) ((pre.length : Nat) : Int) ms = some ((l.filter fun b => ndiff ill b == 0 && !b.testBit v).map Int.ofNat)
 | [], pre, e => by
  rw [List.append_nil] at e;subst e;apply y2h;rw [q00 (Int.le_refl _)]; rfl
 | b :: suf, pre, e => by
  have hd : (l.map Int.ofNat).drop pre.length = (b : Int) :: suf.map Int.ofNat := q0w (by rw [e]; simp);have hlt : pre.length < l.length := by rw [e]; simp
  have hb := hm b (by rw [e]; simp);have hfl := List.length_filter_le (fun b => ndiff ill b == 0 && !b.testBit v) pre;have ih := quz (ms := ms) hill hv hl hm suf (pre ++ [b]) (by rw [e]; simp);rw [List.filter_append, List.map_append, List.length_append] at ih;apply y2h;rw [q03 (by omega)];simp only [cT, q07 hd];rw [q17 (by omega) (by omega), qlp, qdt, q02 (by omega)];cases h1 : (ndiff ill b == 0) with
  | false =>
   rw [List.filter_cons, h1] at ih;simp only [Bool.false_and, fT, if_false, List.filter_nil, List.map_nil, List.append_nil] at ih;exact ih
  | true =>
   simp only [cT];have hsm : b >>> v < 2 ^ 62 := by
    have := Nat.shiftRight_le b v;omega
   rw [q0l (by omega), qk7 b v (by omega), show (1 : Int) = ((1 : Nat) : Int) from rfl, q17 hsm (by decide), q8b];cases h2 : b.testBit v with
   | true =>
    rw [List.filter_cons, h1, h2] at ih;simp only [tA, nT, fT, if_false, List.filter_nil, List.map_nil, List.append_nil] at ih;exact ih
   | false =>
    rw [List.filter_cons, h1, h2] at ih;simp only [tA, Bool.not_false, if_true, List.filter_nil] at ih;simp only [fT, if_false];rw [show eqB ((0 : Nat) : Int) 0 = true from rfl];simp only [cT];rw [q0d (by simp [q0j]; omega)];exact ih
theorem y41 {c : Config} (hn : c.Members.length ≤ 10) {ill v : Nat} (hill : ill < 1024) (hv : v < 10) : z66 c (ill : Int) (v : Int) = some ((btw c ill v).map Int.ofNat) := by
 have hf := q22 hn;apply y62;rw [qep hn];simp only [bS];rw [qbm hf];simp only [bS, List.length_map];exact quz hill hv (q4x hf) (fun s hs => (q0s.1 hs).lt hf) _ [] rfl
def refs (lo hi : Config) (l : List Nat) : List Refutation := l.map fun b => (refT (refR lo hi b)).1
def expN (lo hi : Config) (ill v : Nat) : Explanation :=
 if (inta lo hi ill).testBit v then ⟨1, ((bef lo hi ill : Nat) : Int), 0, 0, []⟩
 else if q2a lo ill then ⟨2, 0, ((apart (delC ill lo)).1 : Int), ((apart (delC ill lo)).2 : Int), []⟩
 else if ill.testBit v then ⟨3, 0, 0, 0, []⟩ else ⟨4, 0, 0, 0, refs lo hi (btw lo ill v)⟩
def expR (lo hi : Config) (z v : Int) : Explanation × Int :=
 if dE lo hi z = 0 then (if v < 0 then (⟨0, 0, 0, 0, []⟩, 5) else if ((lo.Members.length : Nat) : Int) ≤ v then (⟨0, 0, 0, 0, []⟩, 5) else (expN lo hi z.toNat v.toNat, 0)) else (⟨0, 0, 0, 0, []⟩, dE lo hi z)
theorem qxf {lo hi : Config} (h0 : pairE lo hi = 0) {d1 d2 d3 d4 : Int} {d5 : List Refutation} {l : List Nat} (hl : l.length ≤ 1024) (hm : ∀ s ∈ l, s < 2 ^ lo.Members.length) : ∀ (suf pre : List Nat), l = pre ++ suf →
  z39 (l.map Int.ofNat) ((l.length : Nat) : Int) ((pre.length : Nat) : Int) lo.Members hi.Members d1 d2 d3 d4 d5 4 0 0 0 (refs lo hi pre) = some (⟨4, 0, 0, 0, refs lo hi l⟩, 0)
 | [], pre, e => by
  rw [List.append_nil] at e;subst e;apply y1d;rw [q00 (Int.le_refl _)]; rfl
 | b :: suf, pre, e => by
  obtain ⟨hv, hw, _, _, _⟩ := q0q h0;have hd : (l.map Int.ofNat).drop pre.length = (b : Int) :: suf.map Int.ofNat := q0w (by rw [e]; simp);have hlt : pre.length < l.length := by rw [e]; simp
  have hb := hm b (by rw [e]; simp);have ih := qxf h0 (d1 := d1) (d2 := d2) (d3 := d3) (d4 := d4) (d5 := d5) hl hm suf (pre ++ [b]) (by rw [e]; simp);apply y1d;rw [q03 (by omega)];simp only [cT, q07 hd];rw [show Config.mk lo.Members = lo from rfl, show Config.mk hi.Members = hi from rfl, qtz hv.small hw.small, refuR, if_pos (qcj h0 hb), tN];simp only [bS];rw [q0d (by simp [q0j, refs]; omega), q02 (by omega)];have e2 : refs lo hi (pre ++ [b]) = refs lo hi pre ++ [(refT (refR lo hi b)).1] := by unfold refs; simp
  rw [List.length_append, e2] at ih;exact ih
theorem qxt {lo hi : Config} {ill v : Nat} (hv : v < lo.Members.length) : (bef lo hi ill).testBit v = !(inta lo hi ill).testBit v := by
 unfold inta;rw [q04, q83, decide_eq_true hv]; simp
theorem qu1 {lo : Config} {ill : Nat} (h : q2a lo ill = true) : disjR (delC ill lo) = (((apart (delC ill lo)).1 : Int), ((apart (delC ill lo)).2 : Int), 0) := by
 unfold disjR; unfold q2a at h; rw [h]; rfl
theorem y3x {lo hi : Config} (hs : q0f lo) (hs' : q0f hi) (z v : Int) : z5r lo hi z v = some (expR lo hi z v) := by
 apply y72;rw [qv0 hs hs'];simp only [bS, expR, ofR];by_cases h : dE lo hi z = 0
 ·obtain ⟨h0, ill, rfl, hlt⟩ := q50 h;obtain ⟨hv, hw, hlen, _, _⟩ := q0q h0;have hle := hv.1;have hill := q0x hv.1 hlt;rw [if_pos h, if_pos h];simp only [q08, cF, tN];by_cases v0 : v < 0
  ·rw [q03 v0, if_pos v0]; rfl
  ·obtain ⟨k, rfl⟩ := Int.eq_ofNat_of_zero_le (show 0 ≤ v by omega);rw [q00 (by omega), if_neg v0];by_cases v1 : ((lo.Members.length : Nat) : Int) ≤ (k : Int)
   ·rw [q0e v1, if_pos v1]; rfl
   ·have hk : k < lo.Members.length := by omega
    have ha := (q32 lo hi ill).lt (q22 hv.1);rw [q0b (by omega), if_neg v1, q14 ha, q23 (by omega)];simp only [cF, bS, tN, expN, Bool.not_not];cases hb : (inta lo hi ill).testBit k with
    | true =>
     have hf := q22 hv.1;simp only [cT, if_true];rw [q39 hv.1];simp only [bS];rw [q0y (by omega) (by omega)];unfold inta;rw [qhw (qg4 lo hi ill)]
    | false =>
     simp only [cF, fT, if_false];cases hsp : q2a lo ill with
     | true =>
      simp only [cT, if_true];rw [qfs hill lo hv.bears];simp only [bS];rw [qe1 (q1i ill hv).small (q1i ill hv).cerr, qu1 hsp]; rfl
     | false =>
      simp only [cF, fT, if_false];rw [q14 hill, q23 (by omega)];simp only [bS];cases hil : ill.testBit k with
      | true => rfl
      | false =>
       simp only [cF, fT, if_false];rw [qwq hv.1 hill (by omega)];simp only [bS, List.length_map];exact qxf h0 (qoh hv.1 ill k) (fun s hs => y7u hs) _ [] rfl
 ·rw [if_neg h, if_neg h];simp only [q0p h, cT]
def qai (lo hi : Config) (l : List Nat) (rs : List Refutation) : Bool := decide (rs.length = l.length) && (l.zip rs).all fun p => chkR lo hi (p.1 : Int) p.2
theorem qrd {lo hi : Config} (hs : q0f lo) (hs' : q0f hi) {l : List Nat} {rs : List Refutation} (hl : l.length ≤ 1024) (hr : rs.length = l.length) : ∀ (suf : List Nat) (sr : List Refutation) (i : Nat), l.drop i = suf → rs.drop i = sr →
  z3a rs (l.map Int.ofNat) ((l.length : Nat) : Int) (i : Int) lo.Members hi.Members = some ((suf.zip sr).all fun p => chkR lo hi (p.1 : Int) p.2)
 | [], sr, i, h, h' => by
  apply y0w;rw [q0k h]; rfl
 | b :: suf, [], i, h, h' => by
  have h1 := q0h h;have := List.drop_eq_nil_iff.1 h';omega
 | b :: suf, r :: sr, i, h, h' => by
  have h1 := q0h h;have ih := qrd hs hs' hl hr suf sr (i + 1) (q05 h) (q05 h');apply y0w;rw [q09 h];simp only [cT, q07 (q0w h), q07 h'];rw [show Config.mk lo.Members = lo from rfl, show Config.mk hi.Members = hi from rfl, qug hs hs', q02 (by omega), ih];simp only [bS, List.zip_cons_cons, List.all_cons];cases chkR lo hi (b : Int) r <;> rfl
theorem qz9 {lo hi : Config} (hs : q0f lo) (hs' : q0f hi) (hn : lo.Members.length ≤ 10) {ill v : Nat} (hill : ill < 1024) (hv : v < 10) {rs : List Refutation} : z5u lo hi (ill : Int) (v : Int) rs = some (qai lo hi (btw lo ill v) rs) := by
 apply y70;rw [qwq hn hill hv];simp only [bS, qai, List.length_map];by_cases h : rs.length = (btw lo ill v).length
 ·rw [qs0 (by omega), decide_eq_true h];simp only [cF, tA];exact qrd hs hs' (qoh hn ill v) h _ _ 0 rfl rfl
 ·rw [q0p (by omega), decide_eq_false h]; rfl
theorem qx7 {lo hi : Config} (hs : q0f lo) (hs' : q0f hi) {l : List Nat} {rs : List Refutation} (hl : l.length ≤ 1024) (hr : rs.length = l.length) {xa xb xc xd : Int} : ∀ (suf : List Nat) (sr : List Refutation) (i : Nat), l.drop i = suf → rs.drop i = sr →
  z4i (l.map Int.ofNat) ((l.length : Nat) : Int) (i : Int) lo.Members hi.Members xa xb xc xd rs = some ((suf.zip sr).all fun p => chkR lo hi (p.1 : Int) p.2)
 | [], sr, i, h, h' => by
  apply y2n;rw [q0k h]; rfl
 | b :: suf, [], i, h, h' => by
  have h1 := q0h h;have := List.drop_eq_nil_iff.1 h';omega
 | b :: suf, r :: sr, i, h, h' => by
  have h1 := q0h h;have ih := qx7 hs hs' hl hr (xa := xa) (xb := xb) (xc := xc) (xd := xd) suf sr (i + 1) (q05 h) (q05 h');apply y2n;rw [q09 h];simp only [cT, q07 (q0w h), q07 h'];rw [show Config.mk lo.Members = lo from rfl, show Config.mk hi.Members = hi from rfl, qwr hs hs', q02 (by omega), ih];simp only [bS, List.zip_cons_cons, List.all_cons];cases chkR lo hi (b : Int) r <;> rfl
def oA (x : Explanation) : Bool := decide (x.A = 0) && decide (x.B = 0)
def chxN (lo hi : Config) (ill v : Nat) (x : Explanation) : Bool :=
 if x.Kind = 1 then oA x && (decide (x.Refutations.length = 0) && (!q2a lo ill && ((isR lo hi x.Set).1 && (ndiff ill x.Set.toNat == 0 && !x.Set.toNat.testBit v))))
 else if x.Kind = 2 then decide (x.Set = 0) && (decide (x.Refutations.length = 0) && (quoZ (delC ill lo) x.A && (quoZ (delC ill lo) x.B && x.A.toNat &&& x.B.toNat == 0)))
 else if x.Kind = 3 then decide (x.Set = 0) && (oA x && (decide (x.Refutations.length = 0) && ill.testBit v))
 else if x.Kind = 4 then decide (x.Set = 0) && (oA x && qai lo hi (btw lo ill v) x.Refutations)
 else false
def chxR (lo hi : Config) (z v : Int) (x : Explanation) : Bool := dE lo hi z == 0 && (decide (0 ≤ v ∧ v < ((lo.Members.length : Nat) : Int)) && chxN lo hi z.toNat v.toNat x)
theorem ql5 {lo hi : Config} {z : Int} (h : (isR lo hi z).1 = true) : pairE lo hi = 0 ∧ ∃ s : Nat, z = (s : Int) ∧ s < 2 ^ lo.Members.length ∧ isB lo hi s = true := by
 unfold isR at h;split at h
 ·rename_i h0;obtain ⟨h1, s, rfl, h2⟩ := q50 h0;exact ⟨h1, s, rfl, h2, h⟩
 ·cases h
theorem qka (x : Explanation) (a b c : Bool) : z55 x a b c = some ((a || decide (x.Set = 0)) && ((b || oA x) && (c || decide (x.Refutations.length = 0)))) := by
 have e0 : eqB ((x.Refutations.length : Nat) : Int) 0 = decide (x.Refutations.length = 0) := by
  by_cases h : x.Refutations.length = 0
  ·rw [h]; rfl
  ·rw [q13 (by omega), decide_eq_false h]
 have e1 : eqB x.Set 0 = decide (x.Set = 0) := rfl;have e2 : eqB x.A 0 = decide (x.A = 0) := rfl;have e3 : eqB x.B 0 = decide (x.B = 0) := rfl;apply y5x;rw [e0, e1, e2, e3];unfold oA;cases a <;> cases b <;> cases c <;> cases decide (x.Set = 0) <;> cases decide (x.A = 0) <;> cases decide (x.B = 0) <;> rfl
theorem qwb {lo hi : Config} (hs : q0f lo) (hs' : q0f hi) (z v : Int) (x : Explanation) : z5s lo hi z v x = some (chxR lo hi z v x) := by
 apply y5r;rw [qo1 hs hs'];simp only [bS];by_cases h0 : pairE lo hi = 0
 ·obtain ⟨hv, hw, hlen, _, _⟩ := q0q h0;have hle := hv.1;have hde : dE lo hi z = if z < 0 then 1 else if ((full lo : Nat) : Int) < z then 1 else 0 := by unfold dE askE; rw [if_pos h0, hv.cerr, if_neg (by simp)]; rfl
  rw [h0, q08];simp only [cF];unfold chxR;rw [hde];by_cases z0 : z < 0
  ·rw [q03 z0, if_pos z0]; rfl
  ·rw [q00 (by omega), if_neg z0, q39 hv.1];simp only [cF, bS];by_cases z1 : ((full lo : Nat) : Int) < z
   ·rw [q03 z1, if_pos z1]; rfl
   ·obtain ⟨ill, rfl⟩ := Int.eq_ofNat_of_zero_le (show 0 ≤ z by omega);have hlt : ill < 2 ^ lo.Members.length := by have := Nat.two_pow_pos lo.Members.length; unfold full at z1; omega
    have hill := q0x hle hlt;rw [q00 (by omega), if_neg z1];simp only [cF, beq_self_eq_true, tA, tN];by_cases v0 : v < 0
    ·rw [q03 v0, decide_eq_false (by omega)]; rfl
    ·rw [q00 (by omega)];by_cases v1 : ((lo.Members.length : Nat) : Int) ≤ v
     ·rw [q0e v1, decide_eq_false (by omega)]; rfl
     ·obtain ⟨k, rfl⟩ := Int.eq_ofNat_of_zero_le (show 0 ≤ v by omega);have hk : k < 10 := by omega
      rw [q0b (by omega), decide_eq_true (by omega)];simp only [cF, tA, tN];unfold chxN;by_cases k1 : x.Kind = 1
      ·rw [if_pos k1, k1, q0o, qhs hs, q5x hv hlt, ya4 hs hs', qka];simp only [cT, bS, Bool.true_or, Bool.false_or, tA];cases oA x with
       | false => rfl
       | true =>
        cases decide (x.Refutations.length = 0) with
        | false => rfl
        | true =>
         cases q2a lo ill with
         | true => rfl
         | false =>
          cases hi1 : (isR lo hi x.Set).1 with
          | false => rfl
          | true =>
           obtain ⟨_, s, es, hs1, _⟩ := ql5 hi1;have hs2 := q0x hle hs1;rw [es, q0y (by omega) (by omega), q4g, q14 hs2, q23 hk];simp only [tN, Bool.and_self, cT, Bool.not_false, tA, bS];cases (ndiff ill s == 0) <;> rfl
      ·rw [if_neg k1, q13 k1];simp only [cF];by_cases k2 : x.Kind = 2
       ·rw [if_pos k2, k2, q0o, qfs hill lo hv.bears];simp only [cT, bS];rw [qka, qfk (q1i ill hv).small, qfk (q1i ill hv).small];simp only [bS, Bool.true_or, Bool.false_or, tA];cases decide (x.Set = 0) with
        | false => rfl
        | true =>
         cases decide (x.Refutations.length = 0) with
         | false => rfl
         | true =>
          simp only [Bool.and_self, cT, tA];cases hA : quoZ (delC ill lo) x.A with
          | false => rfl
          | true =>
           simp only [cT, tA];cases hB : quoZ (delC ill lo) x.B with
           | false => rfl
           | true => simp only [cT, tA, qcy hA hB]
       ·rw [if_neg k2, q13 k2];simp only [cF];by_cases k3 : x.Kind = 3
        ·rw [if_pos k3, k3, q0o, qka, q14 hill, q23 hk];simp only [cT, bS, Bool.false_or];cases decide (x.Set = 0) <;> cases oA x <;> cases decide (x.Refutations.length = 0) <;> rfl
        ·rw [if_neg k3, q13 k3];simp only [cF];by_cases k4 : x.Kind = 4
         ·rw [if_pos k4, k4, q0o, qka, qz9 hs hs' hle hill hk];simp only [cT, bS, Bool.false_or, Bool.true_or, Bool.and_true];cases decide (x.Set = 0) <;> cases oA x <;> rfl
         ·rw [if_neg k4, q13 k4]; rfl
 ·have hde : dE lo hi z = pairE lo hi := by unfold dE; rw [if_neg h0]
  unfold chxR;rw [q0p h0, hde, beq_eq_false_iff_ne.2 h0]; rfl
theorem quq {lo hi : Config} (hs : q0f lo) (hs' : q0f hi) (h0 : pairE lo hi = 0) {ill k : Nat} (hlt : ill < 2 ^ lo.Members.length) (hkl : k < lo.Members.length) {d : Bool} {K S A B : Int} {rs : List Refutation} (hS : K ≠ 1 → S = 0) (hA : K ≠ 2 → A = 0 ∧ B = 0) (hR : K ≠ 4 → rs.length = 0) : z1u (ill : Int) (k : Int) d lo.Members hi.Members K S A B rs = some (chxN lo hi ill k ⟨K, S, A, B, rs⟩) := by
 obtain ⟨hv, hw, hlen, _, _⟩ := q0q h0;have hle := hv.1;have hill := q0x hle hlt;have hk : k < 10 := by omega
 apply y6u;rw [show Config.mk lo.Members = lo from rfl, show Config.mk hi.Members = hi from rfl];unfold chxN oA;simp only;by_cases k1 : K = 1
 ·obtain ⟨hA1, hB1⟩ := hA (by omega);have hr := hR (by omega);rw [if_pos k1, k1, q0o, qg9 hs, q5x hv hlt, y6h hs hs', hA1, hB1, hr];simp only [cT, bS, decide_true, tA];cases q2a lo ill with
  | true => rfl
  | false =>
   cases hi1 : (isR lo hi S).1 with
   | false =>
    simp only [Bool.not_false, cT, tA, Bool.false_and, cF];cases eqB (isR lo hi S).2 0 <;> rfl
   | true =>
    obtain ⟨_, s, es, hs1, _⟩ := ql5 hi1;have hs2 := q0x hle hs1;have e2 : (isR lo hi S).2 = 0 := by rw [es, qwx h0 hs1]
    rw [e2, q0o, es, q17 (by omega) (by omega), qlp, qdt, q12 hs2, q23 hk];simp only [Bool.not_false, cT, tA, bS, tN];cases (ndiff ill s == 0) <;> rfl
 ·have hs0 := hS k1;rw [if_neg k1, q13 k1, hs0];simp only [cF, decide_true, tA];by_cases k2 : K = 2
  ·have hr := hR (by omega);rw [if_pos k2, k2, q0o, q7w hill lo hv.bears, hr];simp only [cT, bS, decide_true, tA];rw [qfb (q1i ill hv).small, qfb (q1i ill hv).small];simp only [bS];cases hA : quoZ (delC ill lo) A with
   | false => rfl
   | true =>
    simp only [cT, tA];cases hB : quoZ (delC ill lo) B with
    | false => rfl
    | true => simp only [cT, tA, qcy hA hB]
  ·obtain ⟨hA1, hB1⟩ := hA k2;rw [if_neg k2, q13 k2, hA1, hB1];simp only [cF, decide_true, tA];by_cases k3 : K = 3
   ·have hr := hR (by omega);rw [if_pos k3, k3, q0o, q12 hill, q23 hk, hr];rfl
   ·rw [if_neg k3, q13 k3];by_cases k4 : K = 4
    ·rw [if_pos k4, k4, q0o, y41 hle hill hk];simp only [cF, cT, bS, List.length_map, qai];by_cases hl : rs.length = (btw lo ill k).length
     ·rw [qs0 (by omega), decide_eq_true hl];simp only [cF, tA];exact qx7 hs hs' (qoh hle ill k) hl _ _ 0 rfl rfl
     ·rw [q0p (by omega), decide_eq_false hl]; rfl
    ·rw [if_neg k4, q13 k4]; rfl
theorem y46 {lo hi : Config} (hs : q0f lo) (hs' : q0f hi) (z v : Int) (x : Explanation) : z6o lo hi z v x = some (chxR lo hi z v x) := by
 apply y73;rw [qxd hs hs'];simp only [bS];unfold chxR;by_cases h : dE lo hi z = 0
 ·obtain ⟨h0, ill, rfl, hlt⟩ := q50 h;obtain ⟨hv, hw, hlen, _, _⟩ := q0q h0;rw [h, q08];simp only [cF, beq_self_eq_true, tA, tN];by_cases v0 : v < 0
  ·rw [q03 v0, decide_eq_false (by omega)]; rfl
  ·rw [q00 (by omega)];by_cases v1 : ((lo.Members.length : Nat) : Int) ≤ v
   ·rw [q0e v1, decide_eq_false (by omega)]; rfl
   ·obtain ⟨k, rfl⟩ := Int.eq_ofNat_of_zero_le (show 0 ≤ v by omega);have hk : k < lo.Members.length := by omega
    rw [q0b (by omega), decide_eq_true (by omega)];simp only [cF, tA, tN];obtain ⟨K, S, A, B, rs⟩ := x;have key := quq hs hs' h0 hlt hk (d := false) (K := K) (S := S) (A := A) (B := B) (rs := rs);have no : (K ≠ 1 ∧ S ≠ 0) ∨ (K ≠ 2 ∧ (A ≠ 0 ∨ B ≠ 0)) ∨ (K ≠ 4 ∧ rs.length ≠ 0) → chxN lo hi ill k ⟨K, S, A, B, rs⟩ = false := by
     intro hno;unfold chxN oA;simp only;by_cases k1 : K = 1
     ·rw [if_pos k1];rcases hno with ⟨h, _⟩ | ⟨_, h | h⟩ | ⟨_, h⟩
      ·exact absurd k1 h
      ·simp [h]
      ·simp [h]
      ·simp [h]
     ·rw [if_neg k1];by_cases k2 : K = 2
      ·rw [if_pos k2];rcases hno with ⟨_, h⟩ | ⟨h, _⟩ | ⟨_, h⟩
       ·simp [h]
       ·exact absurd k2 h
       ·simp [h]
      ·rw [if_neg k2];by_cases k3 : K = 3
       ·rw [if_pos k3];rcases hno with ⟨_, h⟩ | ⟨_, h | h⟩ | ⟨_, h⟩ <;> simp [h]
       ·rw [if_neg k3];by_cases k4 : K = 4
        ·rw [if_pos k4];rcases hno with ⟨_, h⟩ | ⟨_, h | h⟩ | ⟨h, _⟩
         ·simp [h]
         ·simp [h]
         ·simp [h]
         ·exact absurd k4 h
        ·rw [if_neg k4]
    have dN : ∀ a b : Int, neB a b = false → a = b := fun a b h => by
     simp only [neB, Bool.not_eq_false', dT'] at h; exact h
    have dT : ∀ a b : Int, neB a b = true → a ≠ b := fun a b h => by
     simp only [neB, Bool.not_eq_true', decide_eq_false_iff_not] at h; exact h
    have dL : ltB 0 ((rs.length : Nat) : Int) = true → rs.length ≠ 0 := fun h => by
     simp only [ltB, dT'] at h; omega
    have dL' : ltB 0 ((rs.length : Nat) : Int) = false → rs.length = 0 := fun h => by
     simp only [ltB, decide_eq_false_iff_not] at h; omega
    simp only;cases e1 : neB K 1 <;> cases e2 : neB S 0 <;> cases e3 : neB K 2 <;> cases e4 : neB A 0 <;> cases e5 : neB B 0 <;> cases e6 : neB K 4 <;> cases e7 : ltB 0 ((rs.length : Nat) : Int)
    all_goals simp only [cT, cF]
    all_goals first
     | exact key (fun h => by first | exact dN _ _ e2 | exact absurd (dN _ _ e1) h) (fun h => by first | exact ⟨dN _ _ e4, dN _ _ e5⟩ | exact absurd (dN _ _ e3) h) (fun h => by first | exact dL' e7 | exact absurd (dN _ _ e6) h)
     | (rw [no (by first | exact .inl ⟨dT _ _ e1, dT _ _ e2⟩ | exact .inr (.inl ⟨dT _ _ e3, .inl (dT _ _ e4)⟩) | exact .inr (.inl ⟨dT _ _ e3, .inr (dT _ _ e5)⟩) | exact .inr (.inr ⟨dT _ _ e6, dL e7⟩))])
 ·rw [q0p h, beq_eq_false_iff_ne.2 h]; rfl
variable {n : Nat} {lo hi : Config}
theorem qa2 (h : PairOk n lo hi) (hn : n ≤ 10) {ill v : Nat} (hill : Sub ill (full lo)) (hv : (inta lo hi ill).testBit v = true) : q2a lo ill = false ∧ bef lo hi ill ∈ alls lo hi ill ∧ (bef lo hi ill).testBit v = false := by
 have h0 : ndiff (full lo) (bef lo hi ill) ≠ 0 := nz.2 ⟨v, hv⟩;obtain ⟨hs, _⟩ := qab h hn hill h0;refine ⟨hs, qsl h hn hill hs, ?_⟩;unfold inta at hv;rw [q04, aT, Bool.not_eq_true'] at hv;exact hv.2
theorem qxw (h : PairOk n lo hi) (hn : n ≤ 7) {ill v : Nat} (hill : ill < 2 ^ lo.Members.length) (hv : v < lo.Members.length) : chxN lo hi ill v (expN lo hi ill v) = true ∧ eqB (expN lo hi ill v).Kind 1 = (inta lo hi ill).testBit v := by
 have h0 := q6w h hn;have hsub := q2o.1 hill;unfold expN;cases ha : (inta lo hi ill).testBit v with
 | true =>
  obtain ⟨h1, h2, h3⟩ := qa2 h (by omega) hsub ha;obtain ⟨b1, b2, b3⟩ := q2j.1 h2;refine ⟨?_, rfl⟩;unfold chxN oA;simp only [if_true];rw [qwx h0 (q2o.2 b1), tN, h3, h1, b3, beq_iff_eq.2 (q1j.2 b2)];rfl
 | false =>
  simp only [fT, if_false];cases hs : q2a lo ill with
  | true =>
   refine ⟨?_, by simp [eqB]⟩;have hle : (delC ill lo).Members.length ≤ 10 := by rw [qau]; exact h.lok.le10 (by omega)
   unfold q2a at hs;rcases apart_spec hle with ⟨h1, _, _⟩ | ⟨h1, h2, h3, _⟩
   ·unfold twoB at hs;rw [h1] at hs; cases hs
   ·unfold chxN oA;simp only [if_true];rw [if_neg (by decide), qf9 h1, qf9 h2, tN, tN, h3];rfl
  | false =>
   simp only [fT, if_false];cases hi' : ill.testBit v with
   | true =>
    refine ⟨?_, by simp [eqB]⟩;unfold chxN oA;simp only [if_true];rw [if_neg (by decide), if_neg (by decide), hi'];rfl
   | false =>
    refine ⟨?_, by simp [eqB]⟩;simp only [fT, if_false];unfold chxN oA qai refs;simp only;rw [if_neg (by decide), if_neg (by decide), if_neg (by decide), if_true];have key : ∀ p ∈ (btw lo ill v).zip ((btw lo ill v).map fun b => (refT (refR lo hi b)).1), chkR lo hi (p.1 : Int) p.2 = true := by
     intro p hp;obtain ⟨i, hi1⟩ := List.getElem?_of_mem hp;rw [List.getElem?_zip_eq_some] at hi1;obtain ⟨e1, e2⟩ := hi1;rw [List.getElem?_map, e1] at e2;simp only [mS, sI] at e2;have hb := List.mem_of_getElem? e1;obtain ⟨b1, b2, b3⟩ := qkd.1 hb;have hnot : isB lo hi p.1 = false := by
      cases hx : isB lo hi p.1 with
      | false => rfl
      | true =>
       have hm : p.1 ∈ alls lo hi ill := q2j.2 ⟨b1, b2, hx⟩;have hbv : (bef lo hi ill).testBit v = true := by rw [qxt hv, ha]; rfl
       rw [q9s hs hm v hbv] at b3;cases b3
     obtain ⟨r1, r2⟩ := qxa h (by omega) hnot;rw [← e2];unfold chkR refT;rw [qcj h0 (q2o.2 b1), tN, r2]; rfl
    rw [List.all_eq_true.2 key, List.length_map];simp
theorem qym (h : PairOk n lo hi) (hn : n ≤ 7) {ill v : Nat} (hill : ill < 2 ^ lo.Members.length) (hv : v < lo.Members.length) {x : Explanation} (hx : chxN lo hi ill v x = true) : eqB x.Kind 1 = (inta lo hi ill).testBit v := by
 have h0 := q6w h hn;have hsub := q2o.1 hill;unfold chxN at hx;by_cases k1 : x.Kind = 1
 ·rw [if_pos k1] at hx;simp only [aT, Bool.not_eq_true', beq_iff_eq] at hx;obtain ⟨_, _, h1, h2, h3, h4⟩ := hx;obtain ⟨_, s, es, hs1, hs2⟩ := ql5 h2;rw [es, tN] at h3 h4;have hm : s ∈ alls lo hi ill := q2j.2 ⟨q2o.1 hs1, q1j.1 h3, hs2⟩;have hb := q9s h1 hm;rw [k1, q0o];cases ha : (inta lo hi ill).testBit v with
  | true => rfl
  | false =>
   have hbv : (bef lo hi ill).testBit v = true := by rw [qxt hv, ha]; rfl
   rw [hb v hbv] at h4; cases h4
 ·rw [if_neg k1] at hx;rw [q13 k1];symm;cases ha : (inta lo hi ill).testBit v with
  | false => rfl
  | true =>
   exfalso;obtain ⟨h1, h2, h3⟩ := qa2 h (by omega) hsub ha;obtain ⟨b1, b2, b3⟩ := q2j.1 h2;by_cases k2 : x.Kind = 2
   ·rw [if_pos k2] at hx;simp only [aT, beq_iff_eq] at hx;obtain ⟨_, _, q1, q2, q3⟩ := hx;obtain ⟨s, es, hs⟩ := qdn q1;obtain ⟨t, et, ht⟩ := qdn q2;rw [es, et, tN, tN] at q3;have := (qli (c := delC ill lo) (by rw [qau]; exact h.lok.le10 (by omega))).2 ⟨s, t, hs, ht, q3⟩;unfold q2a at h1;rw [this] at h1; cases h1
   ·rw [if_neg k2] at hx;by_cases k3 : x.Kind = 3
    ·rw [if_pos k3] at hx;simp only [aT] at hx;rw [b2 v hx.2.2.2] at h3; cases h3
    ·rw [if_neg k3] at hx;by_cases k4 : x.Kind = 4
     ·rw [if_pos k4] at hx;unfold qai at hx;simp only [aT, dT', List.all_eq_true] at hx;obtain ⟨_, _, hl, hall⟩ := hx;have hm : bef lo hi ill ∈ btw lo ill v := qkd.2 ⟨b1, b2, h3⟩;obtain ⟨i, hi1⟩ := List.getElem?_of_mem hm;have hil : i < x.Refutations.length := by
       have := (List.getElem?_eq_some_iff.1 hi1).1;omega
      have hz : (bef lo hi ill, x.Refutations[i]) ∈ (btw lo ill v).zip x.Refutations := by
       apply List.mem_of_getElem? (i := i);rw [List.getElem?_zip_eq_some];exact ⟨hi1, List.getElem?_eq_getElem hil⟩
      have hc := hall _ hz;unfold chkR at hc;rw [aT, tN] at hc;rw [y43 h (by omega) hc.2] at b3;cases b3
     ·rw [if_neg k4] at hx; cases hx
theorem qj6 {a b u : Nat} (h : ∀ i, u.testBit i = (a.testBit i || b.testBit i)) (hd : ∀ i, a.testBit i = true → b.testBit i = false) : ∀ m i, (q0t u m i).length = (q0t a m i).length + (q0t b m i).length
 | 0, i => rfl
 | m + 1, i => by
  rw [q4y, q4y a, q4y b, qj6 h hd m (i + 1), h];have := hd i;cases h1 : a.testBit i <;> cases h2 : b.testBit i <;> simp_all <;> omega
theorem pc_or {a b : Nat} (hd : ∀ i, a.testBit i = true → b.testBit i = false) : pc (a ||| b) = pc a + pc b := qj6 (fun _i => Nat.testBit_or ..) hd 10 0
theorem y4o : pc 0 = 0 := by decide
theorem y7j {i : Nat} (h : i < 10) : pc (2 ^ i) = 1 := by
 have : ∀ i, i < 10 → pc (2 ^ i) = 1 := by decide
 exact this i h
theorem qzh {n u : Nat} (hn : n ≤ 10) (h : u < 2 ^ n) : pc u ≤ n := by
 have := qpi (q1t.1 h)
 rwa [qbt _ hn] at this
theorem qy5 {c : Config} {n : Nat} (hn : n ≤ 10) (h1 : 1 ≤ n) (hm : c.Members.length = n) {l : List Int} : ∀ (k s : Nat) (i : Int), k ≤ 100 → s < 2 ^ n → q0v l i →
  ∃ (v : Nat) (j : Int), z62 (n : Int) (s : Int) (k : Int) l i c.Members = some ((v : Int), l, j) ∧ v < 2 ^ n ∧ q0v l j
 | 0, s, i, hk, hs, h => by
  have hp := pow10 hn;have hp1 := Nat.two_pow_pos n;obtain ⟨v, j, g1, g2, g3, g4⟩ := N_ok (n := 2) (by decide) (by decide) h;have hd := q4w c;have hr := q35 c (by omega);have hlt : ndiff (2 ^ n - 1) (decl c) < 2 ^ n := q1t.2 fun i hi => by
   rw [q04] at hi;cases hx : (2 ^ n - 1).testBit i with
   | true => rfl
   | false => simp [hx] at hi
  have hv : v = 0 ∨ v = 1 := by omega
  have key : ∀ w : Nat, mulI .i64 ((ndiff (2 ^ n - 1) (decl c) : Nat) : Int) v = ((w : Nat) : Int) → w < 2 ^ n → ∃ (v : Nat) (j : Int), z62 (n : Int) (s : Int) ((0 : Nat) : Int) l i c.Members = some ((v : Int), l, j) ∧ v < 2 ^ n ∧ q0v l j := by
   intro w hw hwl;refine ⟨s ||| w, j, ?_, Nat.or_lt_two_pow hs hwl, g4⟩;apply y33;rw [q00 (by omega), q0l (by omega), show Config.mk c.Members = c from rfl, hr];simp only [cF, bS];rw [g1];simp only [bS];rw [q1x hn, q0y (by omega) (by omega), hw, q3f (by omega) (by omega)]
  rcases hv with rfl | rfl
  ·refine key 0 ?_ hp1;show mulI .i64 _ 0 = _;unfold mulI;rw [Int.mul_zero];exact q5h (by omega) (by omega)
  ·refine key (ndiff (2 ^ n - 1) (decl c)) ?_ hlt;show mulI .i64 _ 1 = _;unfold mulI;rw [Int.mul_one];exact q5h (by omega) (by omega)
 | k + 1, s, i, hk, hs, h => by
  have hp := pow10 hn;obtain ⟨v, j, g1, g2, g3, g4⟩ := N_ok (n := (n : Int)) (by omega) (by omega) h;obtain ⟨w, rfl⟩ := Int.eq_ofNat_of_zero_le g2;have hw : 2 ^ w < 2 ^ n := Nat.pow_lt_pow_right (by decide) (by omega);obtain ⟨v', j', k1, k2, k3⟩ := qy5 hn h1 hm k (s ||| 2 ^ w) j (by omega) (Nat.or_lt_two_pow hs hw) g4;refine ⟨v', j', ?_, k2, k3⟩;apply y33;rw [q03 (by omega), g1];simp only [cT, bS];rw [q0l (by omega), shl1 (by omega) (by omega), tN, q3f (by omega) (by omega), q2q (by omega) (by omega)];rw [show ((k + 1 : Nat) : Int) - 1 = ((k : Nat) : Int) by omega];exact k1
theorem qje {m : Nat} {c : Config} (hc : ConfOk m c) (hm : m ≤ 10) {l : List Int} {i : Int} (h : q0v l i) : ∃ (v : Nat) (j : Int), z6l c l i = some ((v : Int), l, j) ∧ v < 2 ^ c.Members.length ∧ q0v l j := by
 have hle := hc.le;have hpos := hc.pos;obtain ⟨p, j, g1, g2, g3⟩ := qpg (ps := [0, 1, 1, 2, 3]) (by decide) (by decide) h;have hpn : ∃ k : Nat, k ≤ 100 ∧ p = (k : Int) := by
  simp at g2;rcases g2 with rfl | rfl | rfl | rfl
  ·exact ⟨0, by decide, rfl⟩
  ·exact ⟨1, by decide, rfl⟩
  ·exact ⟨2, by decide, rfl⟩
  ·exact ⟨3, by decide, rfl⟩
 obtain ⟨k, hk, rfl⟩ := hpn;have hp1 := Nat.two_pow_pos c.Members.length;obtain ⟨v, j', k1, k2, k3⟩ := qy5 (c := c) (n := c.Members.length) (by omega) (by omega) rfl (l := l) k 0 j hk hp1 g3;refine ⟨v, j', ?_, k2, k3⟩;apply y6s;rw [g1];simp only [bS];exact k1
def cfour : Config := uni 4 (flat 4 3)
set_option maxRecDepth 100000 in
theorem qco : pairE cfour cfour = 0 := by decide +kernel
theorem four_valid : ValidC cfour := (q0q qco).1
theorem qv2 {x : Int} {l : List Int} (hl : l.length < 1000000) : ∀ (suf : List Int) (i : Nat), l.drop i = suf → z6v x l ((l.length : Nat) : Int) (i : Int) = some (decide (x ∈ suf))
 | [], i, h => by
  apply y1u;rw [q0k h]; simp
 | y :: suf, i, h => by
  have hlt := q0h h;apply y1u;rw [q09 h];simp only [cT, q07 h];by_cases hy : x = y
  ·rw [hy, q0o]; simp
  ·rw [q13 hy, q02 (by omega)];simp only [cF, List.mem_cons, hy, false_or];exact qv2 hl suf (i + 1) (q05 h)
theorem y4i {x : Int} {l : List Int} (hl : l.length < 1000000) : mk_In l x = some (decide (x ∈ l)) := by
 apply qzy;exact qv2 hl l 0 rfl
theorem qzf {x : Nat} {l : List Nat} : ((x : Int) ∈ l.map Int.ofNat) ↔ x ∈ l := by
 simp only [List.mem_map];constructor
 ·rintro ⟨y, hy, e⟩;have : y = x := Int.ofNat.inj e;rw [← this]; exact hy
 ·intro h; exact ⟨x, h, rfl⟩
set_option maxRecDepth 100000 in
theorem qt8 : inta cfour cfour 1 = 14 := by decide +kernel
set_option maxRecDepth 100000 in
theorem qtf : inta cfour cfour 3 = 0 := by decide +kernel
set_option maxRecDepth 100000 in
theorem qv6 : bef cfour cfour 1 = 1 := by decide +kernel
theorem qwj : law15_four = some cfour := by
 apply law15_four_le;apply qn6;simp only [q03 (show (0 : Int) < 4 by decide), cT, show addI .i64 0 1 = 1 from rfl];rw [q0d (by decide)];apply qn6;simp only [q03 (show (1 : Int) < 4 by decide), cT, show addI .i64 1 1 = 2 from rfl];rw [q0d (by decide)];apply qn6;simp only [q03 (show (2 : Int) < 4 by decide), cT, show addI .i64 2 1 = 3 from rfl];rw [q0d (by decide)];apply qn6;simp only [q03 (show (3 : Int) < 4 by decide), cT, show addI .i64 3 1 = 4 from rfl];rw [q0d (by decide)];apply qn6;rfl
theorem q7x : law15_awake = some true := by
 have hs := four_valid.small;have h1 : z2f cfour cfour 1 = some (14, 0) := by
  rw [qba hs hs, show (1 : Int) = ((1 : Nat) : Int) from rfl, q3t qco (by decide), qt8]; rfl
 have h3 : z2f cfour cfour 3 = some (0, 0) := by
  rw [qba hs hs, show (3 : Int) = ((3 : Nat) : Int) from rfl, q3t qco (by decide), qtf]; rfl
 have h2 : z3d cfour cfour 1 = some (1, 0) := by
  rw [qos hs hs, show (1 : Int) = ((1 : Nat) : Int) from rfl, q3t qco (by decide), qv6]
 apply law15_awake_le;rw [qwj];simp only [bS];rw [h1];simp only [bS];rw [h3];simp only [bS];rw [h2];rfl
theorem y0d (lo hi : Config) (ill : Nat) : inta lo hi ill &&& bef lo hi ill = 0 := by
 apply Nat.eq_of_testBit_eq;intro i;unfold inta;rw [Nat.testBit_and, q04, Nat.zero_testBit];cases (full lo).testBit i <;> cases (bef lo hi ill).testBit i <;> rfl
theorem y4r (lo hi : Config) (ill : Nat) : inta lo hi ill ||| bef lo hi ill = full lo := by
 apply Nat.eq_of_testBit_eq;intro i;unfold inta;rw [Nat.testBit_or, q04];cases hb : (bef lo hi ill).testBit i with
 | true => rw [qg4 lo hi ill i hb]; rfl
 | false => simp
theorem y0e {lo hi : Config} {ill : Nat} (h : Sub ill (full lo)) : inta lo hi ill &&& ill = 0 := by
 apply Nat.eq_of_testBit_eq;intro i;rw [Nat.testBit_and, Nat.zero_testBit];cases hi : ill.testBit i with
 | false => simp
 | true =>
  unfold inta;rw [q04, qvs h i hi]; simp
theorem qsi {L : List Nat} (hL : L.length ≤ 1024) (hLt : ∀ s ∈ L, s < 1024) {b : Nat} (hb : b < 1024) (hin : b ∈ L) (hsub : ∀ x ∈ L, Sub b x) {a10 : List Int} {a12 : Int} {a14 a16 : List Member} : ∀ (suf : List Nat) (i : Nat), L.drop i = suf →
  z17 (b : Int) (L.map Int.ofNat) (L.map Int.ofNat) ((L.length : Nat) : Int) (i : Int) a10 a12 a14 a16 = some true
 | [], i, h => by
  apply y1o;rw [q0k h, y4i (by simp; omega), decide_eq_true (qzf.2 hin), q7x]; rfl
 | x :: suf, i, h => by
  have hlt := q0h h;have hx : x ∈ L := List.mem_of_mem_drop (by rw [h]; exact List.mem_cons_self);have hx' := hLt x hx;have e : x &&& b = b := (Sub.and_right _ _).antisymm fun i hi => by rw [Nat.testBit_and, hsub x hx i hi, hi]; rfl
  apply y1o;rw [q09 h];simp only [cT, q07 (q0w h)];rw [q17 (by omega) (by omega), e, q08, q02 (by omega)];exact qsi hL hLt hb hin hsub suf (i + 1) (q05 h)
theorem qtj (t : List Int) : law15_IntactQuorum t = some true := by
 obtain ⟨tl, a1, a2⟩ := qnd t;obtain ⟨lo, hi, j, b1, b2, b3⟩ := qg0 (n := 6) (by decide) (by decide) a2;obtain ⟨v, j2, c1, c2, c3⟩ := qje b2.lok (by decide) b3;have h0 := q6w b2 (by decide);obtain ⟨hv, hw, hl, _, _⟩ := q0q h0;have hsub := q2o.1 c2;have hf := q22 hv.1;have hia := (q32 lo hi v).lt hf;have hib := (qg4 lo hi v).lt hf;have hvv := q0x hv.1 c2;apply law15_IntactQuorum_le;rw [a1];simp only [bS];rw [show (6 : Int) = ((6 : Nat) : Int) from rfl, b1];simp only [bS];rw [q0l (by omega), c1];simp only [bS];rw [qba hv.small hw.small, q3t h0 c2];simp only [bS];rw [qos hv.small hw.small, q3t h0 c2];simp only [bS, q08, cF]
 rw [q17 (by omega) (by omega), q3f (by omega) (by omega), y0d, y4r, q1x hv.1, show ((2 ^ lo.Members.length - 1 : Nat) : Int) = ((full lo : Nat) : Int) from rfl, q17 (by omega) (by omega), y0e hsub, q08, show neB ((0 : Nat) : Int) 0 = false from rfl, q7j hia hw.small, q7j hia hv.small];simp only [cF, bS];rw [y4v hv.small hw.small, qqv h0 c2];simp only [bS];rw [qg9 hv.small, q5x hv c2];simp only [bS, Bool.not_not, List.length_map, ql3, q4g];have fin : (bif q2a lo v then (bif inta lo hi v == 0 then some true else some false) else z17 ((bef lo hi v : Nat) : Int) ((alls lo hi v).map Int.ofNat) ((alls lo hi v).map Int.ofNat) (((alls lo hi v).length : Nat) : Int) 0 tl j2 lo.Members hi.Members) = some true := by
  cases hs : q2a lo v with
  | true =>
   have : inta lo hi v = 0 := by unfold inta bef; rw [hs]; exact q1j.2 (Sub.refl _)
   rw [this]; rfl
  | false =>
   exact qsi (qse hv.1 v) (fun s hs => q0x hv.1 (qxy hs)) hib (qsl b2 (by decide) hsub hs) (fun x hx => q9s hs hx) _ 0 rfl
 by_cases hz : inta lo hi v = 0
 ·rw [hz] at fin ⊢;rw [show ((0 : Nat) != 0) = false from rfl];simp only [cF, q7x, bS];exact fin
 ·obtain ⟨_, hq⟩ := qab b2 (by decide) hsub hz;have q1 : quoB hi (inta lo hi v) = true := (q6m hia).2 hq;have q2 : quoB lo (inta lo hi v) = true := (q6m hia).2 (qd4 b2 hq);rw [show (inta lo hi v != 0) = true from by simp [hz], q1, q2];simp only [nT, cF, cT, q7x, bS];exact fin
theorem noblk {c : Config} {a s k : Nat} (hq : q1v c a) (hk : a.testBit k = true) (hd : ∀ i, a.testBit i = true → s.testBit i = false) : blk c k s = false := by
 unfold blk;rw [hq.2.1 k hk, tA, Bool.not_eq_false'];refine qhj (fun i hi => ?_) (hq.2.2 k hk);rw [Nat.testBit_or, q04, hd i hi, qbo, decide_eq_true (q2m (qhg hq) hi)];rfl
theorem qhl {lo hi : Config} (hs : q0f lo) (hs' : q0f hi) {f a : Nat} (hf : f < 1024) (q1 : ∀ k, a.testBit k = true → q1v lo a ∧ q1v hi a) (ha : a < 1024) {l : List Nat} (hl : l.length ≤ 10) (hm : ∀ k ∈ l, a.testBit k = true) {tl : List Int} : ∀ (suf : List Nat) (i : Nat) (ti : Int), l.drop i = suf → q0v tl ti →
  z2b (a : Int) (f : Int) (l.map Int.ofNat) ((l.length : Nat) : Int) (i : Int) tl ti lo.Members hi.Members = some true
 | [], i, ti, h, ht => by
  apply y1y;rw [q0k h, q7x]; rfl
 | k :: suf, i, ti, h, ht => by
  have hlt := q0h h;have hk := hm k (List.mem_of_mem_drop (by rw [h]; exact List.mem_cons_self));obtain ⟨g1, g2⟩ := q1 k hk;obtain ⟨x, j, c1, c2, c3, c4⟩ := N_ok (n := 64) (by decide) (by decide) ht;obtain ⟨y, rfl⟩ := Int.eq_ofNat_of_zero_le c2;have hyf : y &&& f < 1024 := by have := Nat.and_le_right (n := y) (m := f); omega
  have off : ∀ z i, a.testBit i = true → (ndiff z a).testBit i = false := fun z i hi => by rw [q04, hi]; simp
  apply y1y;rw [q09 h];simp only [cT, q07 (q0w h)];rw [c1];simp only [bS];rw [q0y (by omega) (by omega), q17 (by omega) (by omega), q0y (by omega) (by omega), show Config.mk lo.Members = lo from rfl, show Config.mk hi.Members = hi from rfl, q81 hs (q1g hf), noblk g1 hk (off f)];simp only [bS, cF];rw [q81 hs' (q1g hf), noblk g2 hk (off f)];simp only [bS, cF];rw [q81 hs' (q1g hyf), noblk g2 hk (off _), q02 (by omega)];simp only [bS, cF];exact qhl hs hs' hf q1 ha hl hm suf (i + 1) j (q05 h) c4
theorem qt6 (t : List Int) : law15_IntactBlocks t = some true := by
 obtain ⟨tl, a1, a2⟩ := qnd t;obtain ⟨lo, hi, j, b1, b2, b3⟩ := qg0 (n := 6) (by decide) (by decide) a2;obtain ⟨v, j2, c1, c2, c3⟩ := qje b2.lok (by decide) b3;have h0 := q6w b2 (by decide);obtain ⟨hv, hw, hl, _, _⟩ := q0q h0;have hsub := q2o.1 c2;have hf := q22 hv.1;have hia := (q32 lo hi v).lt hf;apply law15_IntactBlocks_le;rw [a1];simp only [bS];rw [show (6 : Int) = ((6 : Nat) : Int) from rfl, b1];simp only [bS];rw [c1];simp only [bS];rw [qba hv.small hw.small, q3t h0 c2];simp only [bS, q08, cF];rw [q0l (by omega), q1x hv.1, show ((2 ^ lo.Members.length - 1 : Nat) : Int) = ((full lo : Nat) : Int) from rfl, qkg hia];simp only [bS, List.length_map];refine qhl hv.small hw.small hf (fun k hk => ?_) hia (q57 _) (fun k hk => (q1n.1 hk).1) _ 0 j2 rfl c3
 obtain ⟨_, hq⟩ := qab b2 (by decide) hsub (nz.2 ⟨k, hk⟩);exact ⟨qd4 b2 hq, hq⟩
theorem qyz {n : Nat} {lo hi : Config} (h : PairOk n lo hi) (hn : n ≤ 10) {ill more : Nat} (hs : Sub ill more) (hm : Sub more (full lo)) (h0 : inta lo hi ill ≠ 0) : Sub (inta lo hi more) (inta lo hi ill) := by
 intro i hi';obtain ⟨s1, m1, o1⟩ := qa2 h hn hm hi';obtain ⟨k, hk⟩ := nz.1 h0;obtain ⟨s2, _, _⟩ := qa2 h hn (hs.trans hm) hk;have hin : bef lo hi more ∈ alls lo hi ill := by
  obtain ⟨b1, b2, b3⟩ := q2j.1 m1;exact q2j.2 ⟨b1, hs.trans b2, b3⟩
 have hle := q9s s2 hin;unfold inta at hi' ⊢;rw [q04, aT] at hi' ⊢;refine ⟨hi'.1, ?_⟩;rw [Bool.not_eq_true'];cases hb : (bef lo hi ill).testBit i with
 | false => rfl
 | true => rw [hle i hb] at o1; cases o1
theorem qzu {n : Nat} {lo hi : Config} (h : PairOk n lo hi) (hn : n ≤ 10) {ill : Nat} (hs : Sub ill (full lo)) (h0 : inta lo hi ill ≠ 0) : inta lo hi (bef lo hi ill) = inta lo hi ill := by
 obtain ⟨k, hk⟩ := nz.1 h0;obtain ⟨s2, m2, _⟩ := qa2 h hn hs hk;obtain ⟨b1, b2, b3⟩ := q2j.1 m2;have hsp := ((qbb h hn).1 b3).2;have e : bef lo hi (bef lo hi ill) = bef lo hi ill := by
  refine Sub.antisymm ?_ (qvs b1);exact q9s hsp (q2j.2 ⟨b1, Sub.refl _, b3⟩)
 unfold inta;rw [e]
theorem y04 (t : List Int) : law15_IntactLess t = some true := by
 obtain ⟨tl, a1, a2⟩ := qnd t;obtain ⟨lo, hi, j, b1, b2, b3⟩ := qg0 (n := 5) (by decide) (by decide) a2;obtain ⟨v, j2, c1, c2, c3⟩ := qje b2.lok (by decide) b3;obtain ⟨w, j3, d1, d2, d3⟩ := qje b2.lok (by decide) c3;have h0 := q6w b2 (by decide);obtain ⟨hv, hw, hl, _, _⟩ := q0q h0;have hsub := q2o.1 c2;have hf := q22 hv.1;have hor : v ||| w < 2 ^ lo.Members.length := Nat.or_lt_two_pow c2 d2;have hv1 := q0x hv.1 c2;have hw1 := q0x hv.1 d2;have i1 := (q32 lo hi v).lt hf;have i2 := (q32 lo hi (v ||| w)).lt hf;have hbf := qg4 lo hi v;apply law15_IntactLess_le;rw [a1];simp only [bS];rw [show (5 : Int) = ((5 : Nat) : Int) from rfl, b1];simp only [bS];rw [c1];simp only [bS];rw [d1];simp only [bS];rw [q3f (by omega) (by omega), qba hv.small hw.small, q3t h0 c2];simp only [bS]
 rw [qba hv.small hw.small, q3t h0 hor];simp only [bS];rw [qos hv.small hw.small, q3t h0 c2];simp only [bS, q08, cF];rw [q17 (by omega) (by omega), qba hv.small hw.small, q3t h0 (q2o.2 hbf)];simp only [bS, q0o, cT, q7x];by_cases hz : inta lo hi v = 0
 ·rw [hz, show neB ((0 : Nat) : Int) 0 = false from rfl];simp only [cF];cases neB ((inta lo hi (v ||| w) &&& 0 : Nat) : Int) ((inta lo hi (v ||| w) : Nat) : Int) <;> rfl
 ·have hs := qyz b2 (by decide) (Sub.left : Sub v (v ||| w)) (q2o.1 hor) hz;have e : inta lo hi (v ||| w) &&& inta lo hi v = inta lo hi (v ||| w) := qa4.1 hs;rw [e, q08, q0p (show ((inta lo hi v : Nat) : Int) ≠ 0 by omega), qzu b2 (by decide) hsub hz, q0o];rfl
theorem qwd {a x v : Nat} (ha : a.testBit v = true) (hx : x.testBit v = false) (hv : v < 10) : pc (ndiff a x) = pc (ndiff a (x ||| 2 ^ v)) + 1 := by
 have e : ndiff a x = ndiff a (x ||| 2 ^ v) ||| 2 ^ v := by
  apply Nat.eq_of_testBit_eq;intro i;rw [Nat.testBit_or, q04, q04, Nat.testBit_or, q41];by_cases h : v = i
  ·subst h; simp [ha, hx]
  ·simp [h]
 rw [e, pc_or (fun i hi => ?_), y7j hv];rw [q04, Nat.testBit_or, q41] at hi;rw [q41];by_cases h : v = i
 ·simp [h] at hi
 ·simp [h]
theorem qm7 {n : Nat} {lo hi : Config} (h : PairOk n lo hi) (hn : n ≤ 7) {ill g : Nat} (hill : ill < 2 ^ lo.Members.length) (hg : q1v lo g) (hq : g &&& inta lo hi ill ≠ 0) {a10 : List Int} {a12 : Int} : ∀ (m x i : Nat), pc (ndiff (inta lo hi ill) x) = m → m + i ≤ 6 → x < 2 ^ lo.Members.length → Sub (g &&& inta lo hi ill) x →
  z25 (ill : Int) ((inta lo hi ill : Nat) : Int) (x : Int) (i : Int) a10 a12 lo.Members hi.Members = some true := by
 have h0 := q6w h hn;obtain ⟨hv, hw, hl, _, _⟩ := q0q h0;have hf := q22 hv.1;have hia := (q32 lo hi ill).lt hf;intro m;induction m with
 | zero =>
  intro x i hm hmi hx hsub;have hx' := q0x hv.1 hx;have hz : ndiff (inta lo hi ill) x = 0 := by
   apply Classical.byContradiction;intro hne;obtain ⟨k, hk⟩ := nz.1 hne;have hk10 : k < 10 := q2m (q1g hia) hk;have := qwd (a := ndiff (inta lo hi ill) x) (x := 0) hk (Nat.zero_testBit k) hk10;rw [show ndiff (ndiff (inta lo hi ill) x) 0 = ndiff (inta lo hi ill) x from by
    apply Nat.eq_of_testBit_eq;intro i;rw [q04, Nat.zero_testBit]; simp] at this
   omega
  have e : x &&& inta lo hi ill = inta lo hi ill := by rw [Nat.and_comm]; exact qa4.1 (q1j.1 hz)
  apply y0j;have hF : z36 lo hi (ill : Int) (x : Int) = some (-1, false, 0) := by
   have : folN lo hi ill x = none := by
    unfold folN;rw [hz]; rfl
   rw [qvb hv.small hw.small, folR, if_pos (qcj h0 hill), if_neg (by omega), if_neg (by have := Nat.two_pow_pos lo.Members.length; unfold full; omega), tN, tN, this];rfl
  rw [q03 (by omega), q17 (by omega) (by omega), e, q08, q0o, show Config.mk lo.Members = lo from rfl, show Config.mk hi.Members = hi from rfl, hF, q7x];rfl
 | succ m ih =>
  intro x i hm hmi hx hsub;have hx' := q0x hv.1 hx;have hne : ¬ Sub (inta lo hi ill) x := fun hs => by
   have : ndiff (inta lo hi ill) x = 0 := q1j.2 hs;rw [this, y4o] at hm;omega
  obtain ⟨v0, u1, u2, u3⟩ := follows h (by omega) (q2o.1 hill) hg hq hsub hne;have hfn : ∃ v, folN lo hi ill x = some v := by
   cases hf : folN lo hi ill x with
   | some v => exact ⟨v, rfl⟩
   | none =>
    unfold folN at hf;have := List.find?_eq_none.1 hf v0 (q1n.2 ⟨by rw [q04, u2]; unfold inta; rw [u1]; rfl, q2m hia u1⟩);exact absurd u3 this
  obtain ⟨v, hv'⟩ := hfn;have hbl := List.find?_some (show (nodes (ndiff (inta lo hi ill) x)).find? _ = some v from hv');obtain ⟨m1, m2⟩ := q1n.1 (List.mem_of_find?_eq_some (show (nodes (ndiff (inta lo hi ill) x)).find? _ = some v from hv'));have m1' := m1;rw [q04, aT, Bool.not_eq_true'] at m1';have hvf : v < lo.Members.length := by
   have := q32 lo hi ill v m1'.1;rw [q83, dT'] at this; exact this
  have hne' : x &&& inta lo hi ill ≠ inta lo hi ill := fun e => hne (by
   intro i hib;rw [← e, Nat.testBit_and, aT] at hib; exact hib.1)
  have hp : 2 ^ v < 2 ^ lo.Members.length := Nat.pow_lt_pow_right (by decide) hvf;have hst := qwd m1'.1 m1'.2 m2;have ih' := ih (x ||| 2 ^ v) (i + 1) (by omega) (by omega) (Nat.or_lt_two_pow hx hp) (hsub.trans Sub.left);have hbl' : blk lo v (x &&& inta lo hi ill) = true := by rw [Nat.and_comm]; exact hbl
  have hand : x &&& inta lo hi ill < 1024 := qlk hx';have hp' := q0x hv.1 hp;have hF : z36 lo hi (ill : Int) (x : Int) = some ((v : Int), true, 0) := by
   rw [qvb hv.small hw.small, folR, if_pos (qcj h0 hill), if_neg (by omega), if_neg (by have := Nat.two_pow_pos lo.Members.length; unfold full; omega), tN, tN, hv'];rfl
  apply y0j;rw [q03 (by omega), q17 (by omega) (by omega), q0p (by omega), show Config.mk lo.Members = lo from rfl, show Config.mk hi.Members = hi from rfl, hF];simp only [cT, bS, q08, nT, cF];rw [q0y (by omega) (by omega), q12 (q1g hia), q23 m2, m1];simp only [bS, nT, cF];rw [q81 hv.small hand, hbl'];simp only [bS, nT, cF];rw [q0l (by omega), shl1 (by omega) (by omega), tN, q3f (by omega) (by omega), q02 (by omega)];exact ih'
theorem qp8 (t : List Int) : law15_IntactFollows t = some true := by
 obtain ⟨tl, a1, a2⟩ := qnd t;obtain ⟨lo, hi, j, b1, b2, b3⟩ := qg0 (n := 6) (by decide) (by decide) a2;obtain ⟨v, j2, c1, c2, c3⟩ := qje b2.lok (by decide) b3;obtain ⟨x, j3, d1, d2, d3, d4⟩ := N_ok (n := 64) (by decide) (by decide) c3;obtain ⟨y, j4, e1, e2, e3, e4⟩ := N_ok (n := 64) (by decide) (by decide) d4;obtain ⟨x, rfl⟩ := Int.eq_ofNat_of_zero_le d2;obtain ⟨y, rfl⟩ := Int.eq_ofNat_of_zero_le e2;have h0 := q6w b2 (by decide);obtain ⟨hv, hw, hl, _, _⟩ := q0q h0;have hsub := q2o.1 c2;have hf := q22 hv.1;have hia := (q32 lo hi v).lt hf;have hxf : x &&& full lo < 1024 := by have := Nat.and_le_right (n := x) (m := full lo); omega
 have hyf : y &&& full lo < 2 ^ lo.Members.length := q2o.2 (Sub.and_right _ _);have hgl := qhh lo hxf;have hgi : q1l lo (x &&& full lo) &&& inta lo hi v < 2 ^ lo.Members.length := q2o.2 ((Sub.and_right _ _).trans (q32 lo hi v));have hgi' := q0x hv.1 hgi;have hyf' := q0x hv.1 hyf;apply law15_IntactFollows_le;rw [a1];simp only [bS];rw [show (6 : Int) = ((6 : Nat) : Int) from rfl, b1];simp only [bS];rw [q0l (by omega), c1];simp only [bS];rw [qba hv.small hw.small, q3t h0 c2];simp only [bS, q08, cF];rw [d1];simp only [bS];rw [q1x hv.1, show ((2 ^ lo.Members.length - 1 : Nat) : Int) = ((full lo : Nat) : Int) from rfl, q17 (by omega) (by omega), qg7 hxf hv.small];simp only [bS];rw [q17 (by omega) (by omega), q4g];by_cases hz : q1l lo (x &&& full lo) &&& inta lo hi v = 0
 ·rw [hz, q7x]; rfl
 ·rw [show (q1l lo (x &&& full lo) &&& inta lo hi v == 0) = false from by simp [hz], e1];simp only [cF, bS];rw [q17 (by omega) (by omega), q3f (by omega) (by omega)];have hg0 : q1l lo (x &&& full lo) ≠ 0 := fun e => hz (by rw [e, Nat.zero_and])
  have hpc : pc (ndiff (inta lo hi v) ((q1l lo (x &&& full lo) &&& inta lo hi v) ||| (y &&& full lo))) ≤ 6 := by
   refine Nat.le_trans (qzh (n := lo.Members.length) hv.1 ?_) b2.lok.le;exact q2o.2 (fun i hib => by rw [q04, aT] at hib; exact q32 lo hi _ i hib.1)
  exact qm7 b2 (by decide) c2 (q9f lo hxf hg0) hz _ _ 0 rfl (by omega) (Nat.or_lt_two_pow hgi hyf) Sub.left
theorem ql1 {lo hi : Config} (h0 : pairE lo hi = 0) {ill v : Nat} (hill : ill < 2 ^ lo.Members.length) (hv : v < lo.Members.length) (x : Explanation) : chxR lo hi (ill : Int) (v : Int) x = chxN lo hi ill v x := by
 unfold chxR;rw [qcj h0 hill, decide_eq_true (by omega)]; rfl
theorem qmc {n : Nat} {lo hi : Config} (h : PairOk n lo hi) (hn : n ≤ 7) {ill k : Nat} (hill : ill < 2 ^ lo.Members.length) (hk : k < lo.Members.length) {a10 a12 : Int} {xs : List Explanation} (hx : xs.length ≤ 100) {a20 a22 a24 a26 : Int} {a28 : List Refutation} {a30 : List Int} {a32 a38 a40 a42 a44 : Int} {a46 : List Refutation}
  (K : z1k (ill : Int) ((inta lo hi ill : Nat) : Int) a10 (addI .i64 a12 1) a20 a22 a24 a26 a28 a30 a32 lo.Members hi.Members = some true) : ∀ (suf : List Explanation) (i : Nat), xs.drop i = suf →
  z1l (ill : Int) ((inta lo hi ill : Nat) : Int) (k : Int) a10 a12 xs ((xs.length : Nat) : Int) (i : Int) a20 a22 a24 a26 a28 a30 a32 lo.Members hi.Members a38 a40 a42 a44 a46 = some true
 | [], i, he => by
  apply y24;rw [q0k he]; exact K
 | x :: suf, i, he => by
  have h0 := q6w h hn;obtain ⟨hv, hw, hl, _, _⟩ := q0q h0;have hle := hv.1;have hia := (q32 lo hi ill).lt (q22 hv.1);have hlt := q0h he;have ih := qmc h hn hill hk (a38 := a38) (a40 := a40) (a42 := a42) (a44 := a44) (a46 := a46) hx K suf (i + 1) (q05 he);apply y24;rw [q09 he];simp only [cT, q07 he];rw [show Config.mk lo.Members = lo from rfl, show Config.mk hi.Members = hi from rfl, qwb hv.small hw.small, ql1 h0 hill hk, q02 (by omega), ih];simp only [bS];cases hc : chxN lo hi ill k x with
  | false => rfl
  | true =>
   simp only [cT];rw [q12 hia, q23 (by omega), qym h hn hill hk hc];simp
theorem qlv {n : Nat} {lo hi : Config} (h : PairOk n lo hi) (hn : n ≤ 7) {ill : Nat} (hill : ill < 2 ^ lo.Members.length) {a12 a14 a16 a18 : Int} {a20 : List Refutation} {tl : List Int} : ∀ (m k : Nat) (ti : Int), k + m = lo.Members.length → q0v tl ti →
  z1k (ill : Int) ((inta lo hi ill : Nat) : Int) ((lo.Members.length : Nat) : Int) (k : Int) a12 a14 a16 a18 a20 tl ti lo.Members hi.Members = some true
 | 0, k, ti, he, ht => by
  apply y2z;rw [q00 (by omega), q7x]; rfl
 | m + 1, k, ti, he, ht => by
  have h0 := q6w h hn;obtain ⟨hv, hw, hl, _, _⟩ := q0q h0;have hle := hv.1;have hk : k < lo.Members.length := by omega
  have hia := (q32 lo hi ill).lt (q22 hv.1);obtain ⟨r1, r2⟩ := qxw h hn hill hk;obtain ⟨x1, j1, c1, c2, c3, c4⟩ := N_ok (n := 16) (by decide) (by decide) ht;obtain ⟨x2, j2, d1, d2, d3, d4⟩ := N_ok (n := 16) (by decide) (by decide) c4;obtain ⟨x3, j3, e1, e2, e3, e4⟩ := N_ok (n := 16) (by decide) (by decide) d4;have ih := qlv h hn hill (a12 := a12) (a14 := a14) (a16 := a16) (a18 := a18) (a20 := a20) m (k + 1) j3 (by omega) e4;apply y2z;rw [q03 (by omega), show Config.mk lo.Members = lo from rfl, show Config.mk hi.Members = hi from rfl, y3x hv.small hw.small, expR, if_pos (qcj h0 hill), if_neg (by omega), if_neg (by omega)];simp only [cT, bS, q08, cF, tN];rw [y46 hv.small hw.small, ql1 h0 hill hk, r1];simp only [bS, nT, cF];rw [qwb hv.small hw.small, ql1 h0 hill hk, r1];simp only [bS, nT, cF]
  rw [q12 hia, q23 (by omega), r2];simp only [bS, beq_self_eq_true, nT, cF];rw [c1];simp only [bS];rw [d1];simp only [bS];rw [e1];simp only [bS];exact qmc h hn hill hk (by simp) (by rw [q02 (by omega)]; exact ih) _ 0 rfl
theorem qmg (t : List Int) (x : Explanation) (hx : x.Refutations.length < 1152921504606846976) : law15_IntactExplains t x = some true := by
 apply law15_IntactExplains_le;by_cases h1 : 100 < x.Refutations.length
 ·rw [q03 (by omega), q7x]; rfl
 ·obtain ⟨tl, a1, a2⟩ := qnd t;obtain ⟨lo, hi, j, b1, b2, b3⟩ := qg0 (n := 4) (by decide) (by decide) a2;obtain ⟨v, j2, c1, c2, c3⟩ := qje b2.lok (by decide) b3;have h0 := q6w b2 (by decide);obtain ⟨hv, hw, hl, _, _⟩ := q0q h0;rw [q00 (by omega), a1];simp only [cF, bS];rw [show (4 : Int) = ((4 : Nat) : Int) from rfl, b1];simp only [bS];rw [c1];simp only [bS];rw [qba hv.small hw.small, q3t h0 c2];simp only [bS, q08, cF];exact qlv b2 (by decide) c2 lo.Members.length 0 j2 (by omega) c3
end Go.Proofs.YtjfhnffdijlboaaGreat
namespace Go.Ab
open Go Go.ChangeShapes Go.WideShapes Go.RowKit
def Shows (w : World) (ds : List D) (cs : List Value) : Prop := cs.length = ds.length ∧ ∀ (j : Nat) c, ds[j]? = some c → Rep w q48 c (cs.getD j undef)
section
variable {H : Type} {enc : TypeId × Value → H} {P : Program} {w : World} {spare : Nat → Bool} {held : Bool}
def Opens (enc : TypeId × Value → H) (P : Program) (w : World) (spare : Nat → Bool) (held : Bool) (n : Nat) (t : TypeId) {Y : Type} (f : Y → D) (good : Y → Prop) : Prop :=
 ∀ cs d p, DataW.trod enc P w 0 spare held n t cs = some (d, p) → (d.weights P t).all (· ≤ reachBytes) = true → ∃ y, good y ∧ Shows w (f y).cells cs
theorem qgy {v : Value} {d : D} (h : Rep w q48 d v) : Shows w [d] [v] :=
 ⟨rfl, fun j c hj => by
  cases j with
  | zero => simp at hj; subst hj; exact h
  | succ j => simp at hj⟩
theorem q62 {n : Nat} {t : TypeId} {k : IntKind} (ht : P.underlying t = some (.int k)) : Opens enc P w spare held n t (fun z : Int => D.v (.int k z)) (fun z => (Lit.int k z).wf = true) := by
 intro cs d p h _;obtain ⟨z, rfl, hx, hw⟩ := DataW.trod_int ht h;exact ⟨z, hw, qgy (.v _ rfl)⟩
theorem qb3 {e : TypeId} : ∀ {l : List (DataW H)}, (DataW.weightsAll P e l).all (· ≤ reachBytes) = true → ∀ d ∈ l, (d.weights P e).all (· ≤ reachBytes) = true
 | [], _, d, hd => by cases hd
 | x :: r, h, d, hd => by
  simp only [DataW.weightsAll, List.all_append, aT] at h;rcases List.mem_cons.1 hd with rfl | hd
  ·exact h.1
  ·exact qb3 h.2 d hd
theorem q63 : ∀ {ts : List TypeId} {l : List (DataW H)}, (DataW.weightsEach P ts l).all (· ≤ reachBytes) = true → ∀ (i : Nat) t d, ts[i]? = some t → l[i]? = some d → (d.weights P t).all (· ≤ reachBytes) = true
 | [], _, _, i, t, d, h1, _ => by simp at h1
 | _ :: _, [], _, i, t, d, _, h2 => by simp at h2
 | t0 :: ts, d0 :: l, h, i, t, d, h1, h2 => by
  simp only [DataW.weightsEach, List.all_append, aT] at h;cases i with
  | zero => simp at h1 h2; subst h1; subst h2; exact h.1
  | succ i => exact q63 h.2 i t d (by simpa using h1) (by simpa using h2)
theorem y2s {Y : Type} {Q : Nat → Y → Prop} : ∀ (n : Nat), (∀ i, i < n → ∃ y, Q i y) → ∃ ys : List Y, ys.length = n ∧ ∀ (i : Nat) y, ys[i]? = some y → Q i y
 | 0, _ => ⟨[], rfl, fun i y h => by simp at h⟩
 | n + 1, h => by
  obtain ⟨ys, h1, h2⟩ := y2s n (fun i hi => h i (by omega));obtain ⟨y, hy⟩ := h n (by omega);refine ⟨ys ++ [y], by simp [h1], fun i z hz => ?_⟩;rw [List.getElem?_append] at hz;split at hz
  ·exact h2 i z hz
  ·rename_i hi;have : i = n := by have := (List.getElem?_eq_some_iff.1 hz).1; simp at this; omega
   subst this;simp [h1] at hz;subst hz; exact hy
theorem qh7 {a : Addr} {n : Nat} {cs : List Value} (h : w.cells? 0 a n = some cs) : cs.length = n ∧ ∀ i, i < n → w.cell? (a.add i) = cs[i]? := by
 unfold World.cells? at h;rw [if_pos (Nat.zero_le _)] at h;exact ⟨by simpa using mapM_some_length h, fun i hi => mapM_some_get h i i (by simp [hi])⟩
theorem qx0 {a : Addr} {u : Value} (h : w.cell? (a.add 0) = some u) : a.spot = none := by
 simp only [Addr.add, if_true, World.cell?] at h;split at h
 ·split at h
  ·cases h
  ·rename_i hs; simpa using hs
 ·cases h
theorem qog {n sz : Nat} {t e : TypeId} {Y : Type} {f : Y → D} {good : Y → Prop} (ht : P.underlying t = some (.slice e)) (hsz : P.cellsOf e = sz) (hpos : 0 < sz) (hb : 8 ≤ P.bytesOf e) (hf : ∀ y, (f y).cells.length = sz)
  (he : ∀ m, m < n → Opens enc P w spare held m e f good) : Opens enc P w spare held n t (fun ys : List Y => D.list (ys.map f)) (fun ys => ys.length < 1152921504606846976 ∧ ∀ y ∈ ys, good y) := by
 intro cs d p h hw;rcases DataW.trod_slice ht h with ⟨rfl, hx⟩ | ⟨a, len, cap, elems, rest, n', rfl, rfl, hx, _, hlc, _, hlen, hel, _, _⟩
 ·exact ⟨[], ⟨by simp, by simp⟩, qgy (.empty _ _)⟩
 ·simp only [pI] at hx;obtain ⟨rfl, _⟩ := hx;simp only [DataW.weights, ht, List.all_cons, List.all_append, aT, dT', List.length_map] at hw;obtain ⟨hw1, hw2, _⟩ := hw;have each : ∀ i, i < len → ∃ y, good y ∧ ∃ cs', w.cells? 0 (a.add (i * sz)) sz = some cs' ∧ Shows w (f y).cells cs' := by
   intro i hi;have h1 := hel i hi;have hie : i < elems.length := by omega
   rw [List.getElem?_eq_getElem hie, Option.bind_eq_some_iff, hsz] at h1;obtain ⟨cs', h2, h3⟩ := h1;obtain ⟨y, g1, g2⟩ := he n' (by omega) cs' elems[i].1 elems[i].2 h3 (qb3 hw2 _ (List.mem_map.2 ⟨_, List.getElem_mem hie, rfl⟩));exact ⟨y, g1, cs', h2, g2⟩
  obtain ⟨ys, y1, y2⟩ := y2s len each;have hlenb : ys.length < 1152921504606846976 := by
   have h8 : len * 8 ≤ (elems.length + rest.length) * P.bytesOf e := Nat.mul_le_mul (by omega) hb;have : reachBytes = 140737488351232 := rfl;omega
  refine ⟨ys, ⟨hlenb, fun y hy => ?_⟩, qgy ?_⟩
  ·obtain ⟨i, hi⟩ := List.getElem?_of_mem hy;exact (y2 i y hi).1
  ·by_cases h0 : len = 0
   ·have : ys = [] := List.length_eq_zero_iff.1 (by omega);subst this;subst h0;exact .empty _ _
   ·have hsp : a.spot = none := by
     obtain ⟨y, _, cs', h2, _⟩ := each 0 (by omega);obtain ⟨h3, h4⟩ := qh7 h2;have h5 := h4 0 hpos;have hlt : 0 < cs'.length := by omega
     rw [List.getElem?_eq_getElem hlt, Nat.zero_mul] at h5;have := qx0 h5;simpa [Addr.add] using this
    obtain ⟨b, off, sp⟩ := a;simp only at hsp;subst hsp;have hml : (ys.map f).length = len := by simp [y1]
    have key := Rep.list (w := w) (I := q48) (ys.map f) b off cap sz (fun i j => (w.cell? ⟨b, off + i * sz + j, none⟩).getD undef) (fun x hx => by
      obtain ⟨y, _, rfl⟩ := List.mem_map.1 hx; exact hf y) (by rw [hml]; exact hlc)
     (fun i x hx j c hj => by
      rw [List.getElem?_map] at hx;cases hy : ys[i]? with
      | none => rw [hy] at hx; cases hx
      | some y =>
       rw [hy] at hx; simp only [mS, sI] at hx; subst hx;obtain ⟨_, cs', h2, h3, h4⟩ := y2 i y hy;obtain ⟨h5, h6⟩ := qh7 h2;have hj' : j < sz := by rw [← hf y]; exact (List.getElem?_eq_some_iff.1 hj).1
       have h7 := h6 j hj';have hlt : j < cs'.length := by omega
       rw [add_plain, add_plain, List.getElem?_eq_getElem hlt] at h7;exact ⟨by rw [h7]; rfl, trivial⟩)
     (fun i x hx j c hj => by
      rw [List.getElem?_map] at hx;cases hy : ys[i]? with
      | none => rw [hy] at hx; cases hx
      | some y =>
       rw [hy] at hx; simp only [mS, sI] at hx; subst hx;obtain ⟨_, cs', h2, h3, h4⟩ := y2 i y hy;obtain ⟨h5, h6⟩ := qh7 h2;have hj' : j < sz := by rw [← hf y]; exact (List.getElem?_eq_some_iff.1 hj).1
       have h7 := h6 j hj';have hlt : j < cs'.length := by omega
       rw [add_plain, add_plain, List.getElem?_eq_getElem hlt] at h7;have h8 := h4 j c hj;rw [List.getD_eq_getElem?_getD, List.getElem?_eq_getElem hlt] at h8;rw [h7];exact h8)
    rw [hml] at key;exact key
theorem qgw {n : Nat} {t : TypeId} {fs : Array Field} {cs : List Value} {d : DataW H} {p : List MemPlace} (ht : P.underlying t = some (.struct fs)) (h : DataW.trod enc P w 0 spare held n t cs = some (d, p)) (hw : (d.weights P t).all (· ≤ reachBytes) = true) :
  ∃ m, n = m + 1 ∧ cs.length = P.cellsOf t ∧ ∀ (i : Nat) (f : Field), fs[i]? = some f → ∃ d' p', DataW.trod enc P w 0 spare held m f.type ((cs.drop f.offset).take (P.cellsOf f.type)) = some (d', p') ∧ (d'.weights P f.type).all (· ≤ reachBytes) = true := by
 obtain ⟨xs, m, rfl, hx, hl, hn, hf⟩ := DataW.trod_struct ht h;simp only [pI] at hx;obtain ⟨rfl, _⟩ := hx;simp only [DataW.weights, ht] at hw;refine ⟨m, rfl, hl, fun i f hi => ?_⟩;have hlt : i < xs.length := by rw [hn]; exact (Array.getElem?_eq_some_iff.1 hi).1
 have h1 := hf i f hi;rw [List.getElem?_eq_getElem hlt] at h1;exact ⟨_, _, h1, q63 hw i f.type _ (by rw [List.getElem?_map]; simp [hi]) (by rw [List.getElem?_map, List.getElem?_eq_getElem hlt]; rfl)⟩
theorem q7q {a b : List D} {cs : List Value} {k m : Nat} (hm : a.length = m) (h1 : Shows w a ((cs.drop k).take m)) (h2 : Shows w b (cs.drop (k + m))) : Shows w (a ++ b) (cs.drop k) := by
 have hle : m ≤ cs.length - k := by have := h1.1; simp at this; omega
 refine ⟨by have := h2.1; simp at this ⊢; omega, fun j c hj => ?_⟩;rw [List.getElem?_append] at hj;split at hj
 ·rename_i hlt;have := h1.2 j c hj;rw [List.getD_eq_getElem?_getD, List.getElem?_take, if_pos (by omega)] at this;rw [List.getD_eq_getElem?_getD]; exact this
 ·rename_i hge;have := h2.2 _ c hj;rw [List.getD_eq_getElem?_getD, List.getElem?_drop] at this ⊢;rw [show k + m + (j - a.length) = k + j by omega] at this;exact this
theorem qng {a : List D} {cs : List Value} {k m : Nat} (h : Shows w a ((cs.drop k).take m)) (hm : cs.length = k + m) : Shows w a (cs.drop k) := by
 rw [List.take_of_length_le (by simp; omega)] at h; exact h
theorem qub {ds : List D} {cs : Array Value} (h : Shows w ds cs.toList) : Rep w q48 (.agg ds) (.agg cs) :=
 .agg ds cs (by simpa using h.1) (fun j c hj => by
  have := h.2 j c hj;rw [List.getD_eq_getElem?_getD] at this;rw [Array.getD_eq_getD_getElem?];simpa using this)
end
end Go.Ab
namespace Go.Proofs.YtjfhnffdijlboaaGreat
open Go Go.Ab Go.ChangeShapes Go.WideShapes Go.RowKit
section
variable {H : Type} {enc : TypeId × Value → H} {w : World} {spare : Nat → Bool} {held : Bool}
theorem qf5 (n : Nat) : Opens enc Tryz.prog w spare held n 92 q1r (fun _ => True) := by
 intro cs d p h hw;obtain ⟨m, rfl, hl, hf⟩ := qgw Tryz.underlying92 h hw;have c0 : Tryz.prog.cellsOf 92 = 3 := by kernel_rfl
 have c1 : Tryz.prog.cellsOf 3 = 1 := by kernel_rfl
 obtain ⟨d0, p0, t0, w0⟩ := hf 0 _ rfl;replace t0 : DataW.trod enc Tryz.prog w 0 spare held m 3 ((cs.drop 0).take (Tryz.prog.cellsOf 3)) = some (d0, p0) := t0;rw [c1] at t0;obtain ⟨z0, _, s0⟩ := q62 Tryz.underlying3 _ _ _ t0 w0;obtain ⟨d1, p1, t1, w1⟩ := hf 1 _ rfl;replace t1 : DataW.trod enc Tryz.prog w 0 spare held m 3 ((cs.drop 1).take (Tryz.prog.cellsOf 3)) = some (d1, p1) := t1;rw [c1] at t1;obtain ⟨z1, _, s1⟩ := q62 Tryz.underlying3 _ _ _ t1 w1;obtain ⟨d2, p2, t2, w2⟩ := hf 2 _ rfl;replace t2 : DataW.trod enc Tryz.prog w 0 spare held m 3 ((cs.drop 2).take (Tryz.prog.cellsOf 3)) = some (d2, p2) := t2;rw [c1] at t2;obtain ⟨z2, _, s2⟩ := q62 Tryz.underlying3 _ _ _ t2 w2;refine ⟨⟨z0, z1, z2⟩, trivial, ?_⟩
 show Shows w ([D.v (.int .i64 z0)] ++ ([D.v (.int .i64 z1)] ++ [D.v (.int .i64 z2)])) (cs.drop 0);exact q7q (m := 1) rfl s0 (q7q (m := 1) rfl s1 (qng s2 (by rw [hl, c0])))
theorem qdm (n : Nat) : Opens enc Tryz.prog w spare held n 51 q18 (fun x => x.Refutations.length < 1152921504606846976) := by
 intro cs d p h hw;obtain ⟨m, rfl, hl, hf⟩ := qgw Tryz.underlying51 h hw;have c0 : Tryz.prog.cellsOf 51 = 5 := by kernel_rfl
 have c1 : Tryz.prog.cellsOf 3 = 1 := by kernel_rfl
 have c2 : Tryz.prog.cellsOf 49 = 1 := by kernel_rfl
 have c3 : Tryz.prog.cellsOf 92 = 3 := by kernel_rfl
 have b3 : 8 ≤ Tryz.prog.bytesOf 92 := of_decide_eq_true (by kernel_rfl);obtain ⟨d0, p0, t0, w0⟩ := hf 0 _ rfl;replace t0 : DataW.trod enc Tryz.prog w 0 spare held m 3 ((cs.drop 0).take (Tryz.prog.cellsOf 3)) = some (d0, p0) := t0;rw [c1] at t0;obtain ⟨z0, _, s0⟩ := q62 Tryz.underlying3 _ _ _ t0 w0;obtain ⟨d1, p1, t1, w1⟩ := hf 1 _ rfl;replace t1 : DataW.trod enc Tryz.prog w 0 spare held m 3 ((cs.drop 1).take (Tryz.prog.cellsOf 3)) = some (d1, p1) := t1;rw [c1] at t1;obtain ⟨z1, _, s1⟩ := q62 Tryz.underlying3 _ _ _ t1 w1;obtain ⟨d2, p2, t2, w2⟩ := hf 2 _ rfl;replace t2 : DataW.trod enc Tryz.prog w 0 spare held m 3 ((cs.drop 2).take (Tryz.prog.cellsOf 3)) = some (d2, p2) := t2;rw [c1] at t2;obtain ⟨z2, _, s2⟩ := q62 Tryz.underlying3 _ _ _ t2 w2;obtain ⟨d3, p3, t3, w3⟩ := hf 3 _ rfl
 replace t3 : DataW.trod enc Tryz.prog w 0 spare held m 3 ((cs.drop 3).take (Tryz.prog.cellsOf 3)) = some (d3, p3) := t3;rw [c1] at t3;obtain ⟨z3, _, s3⟩ := q62 Tryz.underlying3 _ _ _ t3 w3;obtain ⟨d4, p4, t4, w4⟩ := hf 4 _ rfl;replace t4 : DataW.trod enc Tryz.prog w 0 spare held m 49 ((cs.drop 4).take (Tryz.prog.cellsOf 49)) = some (d4, p4) := t4;rw [c2] at t4;obtain ⟨rs, g1, s4⟩ := qog (f := q1r) (good := fun _ => True) Tryz.underlying49 c3 (by decide) b3 (fun _ => rfl) (fun k _ => qf5 k) _ _ _ t4 w4;refine ⟨⟨z0, z1, z2, z3, rs⟩, g1.1, ?_⟩;show Shows w ([D.v (.int .i64 z0)] ++ ([D.v (.int .i64 z1)] ++ ([D.v (.int .i64 z2)] ++ ([D.v (.int .i64 z3)] ++ [D.list (rs.map q1r)])))) (cs.drop 0)
 exact q7q (m := 1) rfl s0 (q7q (m := 1) rfl s1 (q7q (m := 1) rfl s2 (q7q (m := 1) rfl s3 (qng s4 (by rw [hl, c0])))))
end
end Go.Proofs.YtjfhnffdijlboaaGreat
namespace Go.Proofs.YtjfhnffdijlboaaGreat
open Go Go.Ab Go.ChangeShapes Go.WideShapes Go.ChangeAt Go.WideMaps Go.WideElems Go.RowKit
theorem Tryz.own : ownKnob Tryz.prog.godebug = none := by kernel_rfl
theorem Tryz.laidOut : laidOutB Tryz.prog = true := by kernel_rfl
theorem qd5 {f : Nat} (hlaw : ∀ zs : List Int, (∀ z ∈ zs, (Lit.int .i64 z).wf = true) → ∃ n h', call env n f [.d (ints .i64 zs)] [] = some (.d (.v (.bool true)), h'))
  {W : World} {v : Value} {zs : List Int} (hz : ∀ z ∈ zs, (Lit.int .i64 z).wf = true) (hv : Rep W q48 (ints .i64 zs) v) :
  Calls Tryz.prog f #[v] W fun e w' => e = .returned (.bool true) ∧ Below W.heap.size W w' := by
 obtain ⟨n, h', hc⟩ := hlaw zs hz;exact top (E := env) (y2m n) (fun g cs hg => by cases hg) (ds := [ints .i64 zs]) hc rfl (fun i d hd => by
  cases i with
  | zero => simp at hd; subst hd; exact hv
  | succ i => simp at hd)
end Go.Proofs.YtjfhnffdijlboaaGreat
