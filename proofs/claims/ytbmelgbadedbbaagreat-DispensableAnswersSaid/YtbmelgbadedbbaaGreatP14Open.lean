/- From an argument that reads as data to typed data on the machine: structs, slices of structs, structs that hold slices of themselves. The first part is of no one seat. -/
import Derived.Test.YtbmelgbadedbbaaGreatP14Bent
import Derived.Test.YtbmelgbadedbbaaGreatP14Base
import Derived.Test.YtbmelgbadedbbaaGreatRows
import Derived.ProofKit
import Derived.LaidMore
import Derived.OpenShut
import Derived.Stop.Joined
namespace Go.Ab
open Go Go.ChangeShapes Go.WideShapes Go.RowKit
def Shows (w : World) (ds : List D) (cs : List Value) : Prop := cs.length = ds.length ∧ ∀ (j : Nat) c, ds[j]? = some c → Rep w q3x c (cs.getD j undef)
section
variable {H : Type} {enc : TypeId × Value → H} {P : Program} {w : World} {spare : Nat → Bool} {held : Bool}
def Opens (enc : TypeId × Value → H) (P : Program) (w : World) (spare : Nat → Bool) (held : Bool) (n : Nat) (t : TypeId) {Y : Type} (f : Y → D) (good : Y → Prop) : Prop :=
 ∀ cs d p, DataW.trod enc P w 0 spare held n t cs = some (d, p) → (d.weights P t).all (· ≤ reachBytes) = true → ∃ y, good y ∧ Shows w (f y).cells cs
theorem qca {v : Value} {d : D} (h : Rep w q3x d v) : Shows w [d] [v] :=
 ⟨rfl, fun j c hj => by
  cases j with
  | zero => simp at hj; subst hj; exact h
  | succ j => simp at hj⟩
theorem q97 {n : Nat} {t : TypeId} {k : IntKind} (ht : P.underlying t = some (.int k)) : Opens enc P w spare held n t (fun z : Int => D.v (.int k z)) (fun z => (Lit.int k z).wf = true) := by
 intro cs d p h _;obtain ⟨z, rfl, hx, hw⟩ := DataW.trod_int ht h;exact ⟨z, hw, qca (.v _ rfl)⟩
theorem qry {n : Nat} {t : TypeId} (ht : P.underlying t = some .bool) : Opens enc P w spare held n t (fun z : Bool => D.v (.bool z)) (fun _ => True) := by
 intro cs d p h _;obtain ⟨z, rfl, hx⟩ := DataW.trod_bool ht h;exact ⟨z, trivial, qca (.v _ rfl)⟩
theorem qa9 {e : TypeId} : ∀ {l : List (DataW H)}, (DataW.weightsAll P e l).all (· ≤ reachBytes) = true → ∀ d ∈ l, (d.weights P e).all (· ≤ reachBytes) = true
 | [], _, d, hd => by cases hd
 | x :: r, h, d, hd => by
  simp only [DataW.weightsAll, List.all_append, Bool.and_eq_true] at h;rcases List.mem_cons.1 hd with rfl | hd
  ·exact h.1
  ·exact qa9 h.2 d hd
theorem q2u : ∀ {ts : List TypeId} {l : List (DataW H)}, (DataW.weightsEach P ts l).all (· ≤ reachBytes) = true → ∀ (i : Nat) t d, ts[i]? = some t → l[i]? = some d → (d.weights P t).all (· ≤ reachBytes) = true
 | [], _, _, i, t, d, h1, _ => by simp at h1
 | _ :: _, [], _, i, t, d, _, h2 => by simp at h2
 | t0 :: ts, d0 :: l, h, i, t, d, h1, h2 => by
  simp only [DataW.weightsEach, List.all_append, Bool.and_eq_true] at h;cases i with
  | zero => simp at h1 h2; subst h1; subst h2; exact h.1
  | succ i => exact q2u h.2 i t d (by simpa using h1) (by simpa using h2)
theorem y0k {Y : Type} {Q : Nat → Y → Prop} : ∀ (n : Nat), (∀ i, i < n → ∃ y, Q i y) → ∃ ys : List Y, ys.length = n ∧ ∀ (i : Nat) y, ys[i]? = some y → Q i y
 | 0, _ => ⟨[], rfl, fun i y h => by simp at h⟩
 | n + 1, h => by
  obtain ⟨ys, h1, h2⟩ := y0k n (fun i hi => h i (by omega))
  obtain ⟨y, hy⟩ := h n (by omega)
  refine ⟨ys ++ [y], by simp [h1], fun i z hz => ?_⟩
  rw [List.getElem?_append] at hz;split at hz
  ·exact h2 i z hz
  ·rename_i hi;have : i = n := by have := (List.getElem?_eq_some_iff.1 hz).1; simp at this; omega
   subst this;simp [h1] at hz;subst hz; exact hy
theorem qez {a : Addr} {n : Nat} {cs : List Value} (h : w.cells? 0 a n = some cs) : cs.length = n ∧ ∀ i, i < n → w.cell? (a.add i) = cs[i]? := by
 unfold World.cells? at h;rw [if_pos (Nat.zero_le _)] at h;exact ⟨by simpa using mapM_some_length h, fun i hi => mapM_some_get h i i (by simp [hi])⟩
theorem qv7 {a : Addr} {u : Value} (h : w.cell? (a.add 0) = some u) : a.spot = none := by
 simp only [Addr.add, if_true, World.cell?] at h;split at h
 ·split at h
  ·cases h
  ·rename_i hs; simpa using hs
 ·cases h
theorem qaz {n sz : Nat} {t e : TypeId} {Y : Type} {f : Y → D} {good : Y → Prop} (ht : P.underlying t = some (.slice e)) (hsz : P.cellsOf e = sz) (hpos : 0 < sz) (hb : 8 ≤ P.bytesOf e) (hf : ∀ y, (f y).cells.length = sz)
  (he : ∀ m, m < n → Opens enc P w spare held m e f good) : Opens enc P w spare held n t (fun ys : List Y => D.list (ys.map f)) (fun ys => ys.length < 1152921504606846976 ∧ ∀ y ∈ ys, good y) := by
 intro cs d p h hw;rcases DataW.trod_slice ht h with ⟨rfl, hx⟩ | ⟨a, len, cap, elems, rest, n', rfl, rfl, hx, _, hlc, _, hlen, hel, _, _⟩
 ·exact ⟨[], ⟨by simp, by simp⟩, qca (.empty _ _)⟩
 ·simp only [Prod.mk.injEq] at hx;obtain ⟨rfl, _⟩ := hx;simp only [DataW.weights, ht, List.all_cons, List.all_append, Bool.and_eq_true, decide_eq_true_eq, List.length_map] at hw;obtain ⟨hw1, hw2, _⟩ := hw;have each : ∀ i, i < len → ∃ y, good y ∧ ∃ cs', w.cells? 0 (a.add (i * sz)) sz = some cs' ∧ Shows w (f y).cells cs' := by
   intro i hi;have h1 := hel i hi;have hie : i < elems.length := by omega
   rw [List.getElem?_eq_getElem hie, Option.bind_eq_some_iff, hsz] at h1;obtain ⟨cs', h2, h3⟩ := h1;obtain ⟨y, g1, g2⟩ := he n' (by omega) cs' elems[i].1 elems[i].2 h3 (qa9 hw2 _ (List.mem_map.2 ⟨_, List.getElem_mem hie, rfl⟩))
   exact ⟨y, g1, cs', h2, g2⟩
  obtain ⟨ys, y1, y2⟩ := y0k len each;have hlenb : ys.length < 1152921504606846976 := by
   have h8 : len * 8 ≤ (elems.length + rest.length) * P.bytesOf e := Nat.mul_le_mul (by omega) hb
   have : reachBytes = 140737488351232 := rfl;omega
  refine ⟨ys, ⟨hlenb, fun y hy => ?_⟩, qca ?_⟩
  ·obtain ⟨i, hi⟩ := List.getElem?_of_mem hy;exact (y2 i y hi).1
  ·by_cases h0 : len = 0
   ·have : ys = [] := List.length_eq_zero_iff.1 (by omega)
    subst this;subst h0;exact .empty _ _
   ·have hsp : a.spot = none := by
     obtain ⟨y, _, cs', h2, _⟩ := each 0 (by omega)
     obtain ⟨h3, h4⟩ := qez h2;have h5 := h4 0 hpos;have hlt : 0 < cs'.length := by omega
     rw [List.getElem?_eq_getElem hlt, Nat.zero_mul] at h5;have := qv7 h5;simpa [Addr.add] using this
    obtain ⟨b, off, sp⟩ := a;simp only at hsp;subst hsp;have hml : (ys.map f).length = len := by simp [y1]
    have key := Rep.list (w := w) (I := q3x) (ys.map f) b off cap sz (fun i j => (w.cell? ⟨b, off + i * sz + j, none⟩).getD undef) (fun x hx => by
      obtain ⟨y, _, rfl⟩ := List.mem_map.1 hx; exact hf y) (by rw [hml]; exact hlc)
     (fun i x hx j c hj => by
      rw [List.getElem?_map] at hx;cases hy : ys[i]? with
      | none => rw [hy] at hx; cases hx
      | some y =>
       rw [hy] at hx; simp only [Option.map_some, Option.some.injEq] at hx; subst hx;obtain ⟨_, cs', h2, h3, h4⟩ := y2 i y hy;obtain ⟨h5, h6⟩ := qez h2;have hj' : j < sz := by rw [← hf y]; exact (List.getElem?_eq_some_iff.1 hj).1
       have h7 := h6 j hj';have hlt : j < cs'.length := by omega
       rw [add_plain, add_plain, List.getElem?_eq_getElem hlt] at h7;exact ⟨by rw [h7]; rfl, trivial⟩)
     (fun i x hx j c hj => by
      rw [List.getElem?_map] at hx;cases hy : ys[i]? with
      | none => rw [hy] at hx; cases hx
      | some y =>
       rw [hy] at hx; simp only [Option.map_some, Option.some.injEq] at hx; subst hx;obtain ⟨_, cs', h2, h3, h4⟩ := y2 i y hy;obtain ⟨h5, h6⟩ := qez h2;have hj' : j < sz := by rw [← hf y]; exact (List.getElem?_eq_some_iff.1 hj).1
       have h7 := h6 j hj';have hlt : j < cs'.length := by omega
       rw [add_plain, add_plain, List.getElem?_eq_getElem hlt] at h7;have h8 := h4 j c hj;rw [List.getD_eq_getElem?_getD, List.getElem?_eq_getElem hlt] at h8;rw [h7];exact h8)
    rw [hml] at key;exact key
theorem q7r {n : Nat} {t : TypeId} {fs : Array Field} {cs : List Value} {d : DataW H} {p : List MemPlace} (ht : P.underlying t = some (.struct fs)) (h : DataW.trod enc P w 0 spare held n t cs = some (d, p)) (hw : (d.weights P t).all (· ≤ reachBytes) = true) :
  ∃ m, n = m + 1 ∧ cs.length = P.cellsOf t ∧ ∀ (i : Nat) (f : Field), fs[i]? = some f → ∃ d' p', DataW.trod enc P w 0 spare held m f.type ((cs.drop f.offset).take (P.cellsOf f.type)) = some (d', p') ∧ (d'.weights P f.type).all (· ≤ reachBytes) = true := by
 obtain ⟨xs, m, rfl, hx, hl, hn, hf⟩ := DataW.trod_struct ht h;simp only [Prod.mk.injEq] at hx;obtain ⟨rfl, _⟩ := hx;simp only [DataW.weights, ht] at hw;refine ⟨m, rfl, hl, fun i f hi => ?_⟩
 have hlt : i < xs.length := by rw [hn]; exact (Array.getElem?_eq_some_iff.1 hi).1
 have h1 := hf i f hi;rw [List.getElem?_eq_getElem hlt] at h1;exact ⟨_, _, h1, q2u hw i f.type _ (by rw [List.getElem?_map]; simp [hi]) (by rw [List.getElem?_map, List.getElem?_eq_getElem hlt]; rfl)⟩
theorem q8h {a b : List D} {cs : List Value} {k m : Nat} (hm : a.length = m) (h1 : Shows w a ((cs.drop k).take m)) (h2 : Shows w b (cs.drop (k + m))) : Shows w (a ++ b) (cs.drop k) := by
 have hle : m ≤ cs.length - k := by have := h1.1; simp at this; omega
 refine ⟨by have := h2.1; simp at this ⊢; omega, fun j c hj => ?_⟩
 rw [List.getElem?_append] at hj;split at hj
 ·rename_i hlt;have := h1.2 j c hj;rw [List.getD_eq_getElem?_getD, List.getElem?_take, if_pos (by omega)] at this
  rw [List.getD_eq_getElem?_getD]; exact this
 ·rename_i hge;have := h2.2 _ c hj;rw [List.getD_eq_getElem?_getD, List.getElem?_drop] at this ⊢;rw [show k + m + (j - a.length) = k + j by omega] at this
  exact this
theorem qc6 {a : List D} {cs : List Value} {k m : Nat} (h : Shows w a ((cs.drop k).take m)) (hm : cs.length = k + m) : Shows w a (cs.drop k) := by
 rw [List.take_of_length_le (by simp; omega)] at h; exact h
theorem qev {ds : List D} {cs : Array Value} (h : Shows w ds cs.toList) : Rep w q3x (.agg ds) (.agg cs) :=
 .agg ds cs (by simpa using h.1) (fun j c hj => by
  have := h.2 j c hj;rw [List.getD_eq_getElem?_getD] at this;rw [Array.getD_eq_getD_getElem?];simpa using this)
end
end Go.Ab
namespace Go.Proofs.YtbmelgbadedbbaaGreat
open Go Go.Ab Go.ChangeShapes Go.WideShapes Go.RowKit
section
variable {H : Type} {enc : TypeId × Value → H} {w : World} {spare : Nat → Bool} {held : Bool}
theorem qnc (t : Trust) : (q1z t).cells.length = 3 := by cases t; rfl
theorem y2b {l : List Trust} (h : ∀ x ∈ l, raw x = true) : raws l = true := by
 induction l with
 | nil => rfl
 | cons y r ih => simp only [raws, h y (by simp), ih (fun x hx => h x (by simp [hx])), Bool.and_self]
theorem qon : ∀ n, Opens enc Tryz.prog w spare held n 65 q1z (fun t => raw t = true) := by
 intro n;induction n using Nat.strongRecOn with
 | _ n ih =>
  intro cs d p h hw;obtain ⟨m, rfl, hl, hf⟩ := q7r Tryz.underlying65 h hw;have c65 : Tryz.prog.cellsOf 65 = 3 := by kernel_rfl
  have c3 : Tryz.prog.cellsOf 3 = 1 := by kernel_rfl
  have c22 : Tryz.prog.cellsOf 22 = 1 := by kernel_rfl
  have c63 : Tryz.prog.cellsOf 63 = 1 := by kernel_rfl
  have b3 : Tryz.prog.bytesOf 3 = 8 := by kernel_rfl
  have b65 : 8 ≤ Tryz.prog.bytesOf 65 := of_decide_eq_true (by kernel_rfl)
  obtain ⟨d0, p0, t0, w0⟩ := hf 0 _ rfl;obtain ⟨d1, p1, t1, w1⟩ := hf 1 _ rfl;obtain ⟨d2, p2, t2, w2⟩ := hf 2 _ rfl;replace t0 : DataW.trod enc Tryz.prog w 0 spare held m 3 ((cs.drop 0).take (Tryz.prog.cellsOf 3)) = some (d0, p0) := t0;replace t1 : DataW.trod enc Tryz.prog w 0 spare held m 22 ((cs.drop 1).take (Tryz.prog.cellsOf 22)) = some (d1, p1) := t1;replace t2 : DataW.trod enc Tryz.prog w 0 spare held m 63 ((cs.drop 2).take (Tryz.prog.cellsOf 63)) = some (d2, p2) := t2;rw [c3] at t0; rw [c22] at t1; rw [c63] at t2;obtain ⟨z, z1, z2⟩ := q97 Tryz.underlying3 _ _ _ t0 w0;obtain ⟨ns, n1, n2⟩ := qaz (f := q69) (good := fun z => (Lit.int .i64 z).wf = true) Tryz.underlying22 c3 (by decide) (by rw [b3]; decide) (fun _ => rfl) (fun k _ => q97 Tryz.underlying3) _ _ _ t1 w1
  obtain ⟨is, i1, i2⟩ := qaz (f := q1z) (good := fun t => raw t = true) Tryz.underlying63 c65 (by decide) b65 qnc (fun k hk => ih k (by omega)) _ _ _ t2 w2
  refine ⟨⟨z, ns, is⟩, ?_, ?_⟩
  ·have := bounds_i64 z1;show raw ⟨z, ns, is⟩ = true;rw [qzu];simp only [Bool.and_eq_true, decide_eq_true_eq];exact ⟨by omega, n1.1, i1.1, y2b i1.2⟩
  ·show Shows w ([D.v (.int .i64 z)] ++ ([D.list (ns.map q69)] ++ [D.list (q2o is)])) (cs.drop 0);rw [q54];exact q8h (m := 1) rfl z2 (q8h (m := 1) rfl n2 (qc6 i2 (by rw [hl, c65])))
theorem qm5 (n : Nat) : Opens enc Tryz.prog w spare held n 67 q2n (fun m => raw m.Trust = true) := by
 intro cs d p h hw;obtain ⟨m, rfl, hl, hf⟩ := q7r Tryz.underlying67 h hw;have c67 : Tryz.prog.cellsOf 67 = 4 := by kernel_rfl
 have c65 : Tryz.prog.cellsOf 65 = 3 := by kernel_rfl
 have c4 : Tryz.prog.cellsOf 4 = 1 := by kernel_rfl
 obtain ⟨d0, p0, t0, w0⟩ := hf 0 _ rfl;obtain ⟨d1, p1, t1, w1⟩ := hf 1 _ rfl;replace t0 : DataW.trod enc Tryz.prog w 0 spare held m 4 ((cs.drop 0).take (Tryz.prog.cellsOf 4)) = some (d0, p0) := t0;replace t1 : DataW.trod enc Tryz.prog w 0 spare held m 65 ((cs.drop 1).take (Tryz.prog.cellsOf 65)) = some (d1, p1) := t1;rw [c4] at t0; rw [c65] at t1;obtain ⟨b, _, z2⟩ := qry Tryz.underlying4 _ _ _ t0 w0;obtain ⟨t, g1, g2⟩ := qon _ _ _ _ t1 w1;refine ⟨⟨b, t⟩, g1, ?_⟩;obtain ⟨thr, ns, is⟩ := t;show Shows w ([D.v (.bool b)] ++ [.v (.int .i64 thr), .list (ns.map q69), .list (is.map q1z)]) (cs.drop 0);rw [← q54];exact q8h (m := 1) rfl z2 (qc6 g2 (by rw [hl, c67]))
theorem qe3 (n : Nat) : Opens enc Tryz.prog w spare held n 27 q1e (fun c => ∀ m ∈ c.Members, raw m.Trust = true) := by
 intro cs d p h hw;obtain ⟨m, rfl, hl, hf⟩ := q7r Tryz.underlying27 h hw;have c27 : Tryz.prog.cellsOf 27 = 1 := by kernel_rfl
 have c67 : Tryz.prog.cellsOf 67 = 4 := by kernel_rfl
 have c25 : Tryz.prog.cellsOf 25 = 1 := by kernel_rfl
 have b67 : 8 ≤ Tryz.prog.bytesOf 67 := of_decide_eq_true (by kernel_rfl)
 obtain ⟨d0, p0, t0, w0⟩ := hf 0 _ rfl;replace t0 : DataW.trod enc Tryz.prog w 0 spare held m 25 ((cs.drop 0).take (Tryz.prog.cellsOf 25)) = some (d0, p0) := t0;rw [c25] at t0;obtain ⟨ms, g1, g2⟩ := qaz (f := q2n) (good := fun m => raw m.Trust = true) Tryz.underlying25 c67 (by decide) b67 (fun _ => rfl) (fun k _ => qm5 k) _ _ _ t0 w0
 exact ⟨⟨ms⟩, g1.2, qc6 g2 (by rw [hl, c27])⟩
theorem qe9 (n : Nat) : Opens enc Tryz.prog w spare held n 40 q15 (fun _ => True) := by
 intro cs d p h hw;obtain ⟨m, rfl, hl, hf⟩ := q7r Tryz.underlying40 h hw;have c0 : Tryz.prog.cellsOf 40 = 3 := by kernel_rfl
 have c1 : Tryz.prog.cellsOf 3 = 1 := by kernel_rfl
 obtain ⟨d0, p0, t0, w0⟩ := hf 0 _ rfl;replace t0 : DataW.trod enc Tryz.prog w 0 spare held m 3 ((cs.drop 0).take (Tryz.prog.cellsOf 3)) = some (d0, p0) := t0;rw [c1] at t0;obtain ⟨z0, _, s0⟩ := q97 Tryz.underlying3 _ _ _ t0 w0;obtain ⟨d1, p1, t1, w1⟩ := hf 1 _ rfl;replace t1 : DataW.trod enc Tryz.prog w 0 spare held m 3 ((cs.drop 1).take (Tryz.prog.cellsOf 3)) = some (d1, p1) := t1;rw [c1] at t1;obtain ⟨z1, _, s1⟩ := q97 Tryz.underlying3 _ _ _ t1 w1;obtain ⟨d2, p2, t2, w2⟩ := hf 2 _ rfl;replace t2 : DataW.trod enc Tryz.prog w 0 spare held m 3 ((cs.drop 2).take (Tryz.prog.cellsOf 3)) = some (d2, p2) := t2;rw [c1] at t2;obtain ⟨z2, _, s2⟩ := q97 Tryz.underlying3 _ _ _ t2 w2;refine ⟨⟨z0, z1, z2⟩, trivial, ?_⟩
 show Shows w ([D.v (.int .i64 z0)] ++ ([D.v (.int .i64 z1)] ++ [D.v (.int .i64 z2)])) (cs.drop 0);exact q8h (m := 1) rfl s0 (q8h (m := 1) rfl s1 (qc6 s2 (by rw [hl, c0])))
end
end Go.Proofs.YtbmelgbadedbbaaGreat
