/- From an argument that reads as data to typed data on the machine: structs, slices of structs, structs that hold slices of themselves. The first part is of no one seat. -/
import Derived.Test.YtbmelgbadedbbaaGreatP14Bent
import Derived.Test.YtbmelgbadedbbaaGreatP14Base
import Derived.Test.YtbmelgbadedbbaaGreatRows
import Derived.ProofKit
import Derived.LaidMore
import Derived.OpenShut
import Derived.Stop.Joined
namespace Go.Ab
open Go Go.ChangeShapes Go.WideShapes Go.RowKit
def Shows (w : World) (ds : List D) (cs : List Value) : Prop := cs.length = ds.length ∧ ∀ (j : Nat) c, ds[j]? = some c → Rep w q48 c (cs.getD j undef)
section
variable {H : Type} {enc : TypeId × Value → H} {P : Program} {w : World} {spare : Nat → Bool} {held : Bool}
def Opens (enc : TypeId × Value → H) (P : Program) (w : World) (spare : Nat → Bool) (held : Bool) (n : Nat) (t : TypeId) {Y : Type} (f : Y → D) (good : Y → Prop) : Prop :=
 ∀ cs d p, DataW.trod enc P w 0 spare held n t cs = some (d, p) → (d.weights P t).all (· ≤ reachBytes) = true → ∃ y, good y ∧ Shows w (f y).cells cs
theorem qvz {v : Value} {d : D} (h : Rep w q48 d v) : Shows w [d] [v] :=
 ⟨rfl, fun j c hj => by
  cases j with
  | zero => simp at hj; subst hj; exact h
  | succ j => simp at hj⟩
theorem qgj {n : Nat} {t : TypeId} {k : IntKind} (ht : P.underlying t = some (.int k)) : Opens enc P w spare held n t (fun z : Int => D.v (.int k z)) (fun z => (Lit.int k z).wf = true) := by
 intro cs d p h _;obtain ⟨z, rfl, hx, hw⟩ := DataW.trod_int ht h;exact ⟨z, hw, qvz (.v _ rfl)⟩
theorem q5g : ∀ {ts : List TypeId} {l : List (DataW H)}, (DataW.weightsEach P ts l).all (· ≤ reachBytes) = true → ∀ (i : Nat) t d, ts[i]? = some t → l[i]? = some d → (d.weights P t).all (· ≤ reachBytes) = true
 | [], _, _, i, t, d, h1, _ => by simp at h1
 | _ :: _, [], _, i, t, d, _, h2 => by simp at h2
 | t0 :: ts, d0 :: l, h, i, t, d, h1, h2 => by
  simp only [DataW.weightsEach, List.all_append, Bool.and_eq_true] at h;cases i with
  | zero => simp at h1 h2; subst h1; subst h2; exact h.1
  | succ i => exact q5g h.2 i t d (by simpa using h1) (by simpa using h2)
theorem qn7 {n : Nat} {t : TypeId} {fs : Array Field} {cs : List Value} {d : DataW H} {p : List MemPlace} (ht : P.underlying t = some (.struct fs)) (h : DataW.trod enc P w 0 spare held n t cs = some (d, p)) (hw : (d.weights P t).all (· ≤ reachBytes) = true) :
  ∃ m, n = m + 1 ∧ cs.length = P.cellsOf t ∧ ∀ (i : Nat) (f : Field), fs[i]? = some f → ∃ d' p', DataW.trod enc P w 0 spare held m f.type ((cs.drop f.offset).take (P.cellsOf f.type)) = some (d', p') ∧ (d'.weights P f.type).all (· ≤ reachBytes) = true := by
 obtain ⟨xs, m, rfl, hx, hl, hn, hf⟩ := DataW.trod_struct ht h;simp only [Prod.mk.injEq] at hx;obtain ⟨rfl, _⟩ := hx;simp only [DataW.weights, ht] at hw;refine ⟨m, rfl, hl, fun i f hi => ?_⟩
 have hlt : i < xs.length := by rw [hn]; exact (Array.getElem?_eq_some_iff.1 hi).1
 have h1 := hf i f hi;rw [List.getElem?_eq_getElem hlt] at h1;exact ⟨_, _, h1, q5g hw i f.type _ (by rw [List.getElem?_map]; simp [hi]) (by rw [List.getElem?_map, List.getElem?_eq_getElem hlt]; rfl)⟩
theorem qkz {a b : List D} {cs : List Value} {k m : Nat} (hm : a.length = m) (h1 : Shows w a ((cs.drop k).take m)) (h2 : Shows w b (cs.drop (k + m))) : Shows w (a ++ b) (cs.drop k) := by
 have hle : m ≤ cs.length - k := by have := h1.1; simp at this; omega
 refine ⟨by have := h2.1; simp at this ⊢; omega, fun j c hj => ?_⟩
 rw [List.getElem?_append] at hj;split at hj
 ·rename_i hlt;have := h1.2 j c hj;rw [List.getD_eq_getElem?_getD, List.getElem?_take, if_pos (by omega)] at this
  rw [List.getD_eq_getElem?_getD]; exact this
 ·rename_i hge;have := h2.2 _ c hj;rw [List.getD_eq_getElem?_getD, List.getElem?_drop] at this ⊢;rw [show k + m + (j - a.length) = k + j by omega] at this
  exact this
theorem qv4 {a : List D} {cs : List Value} {k m : Nat} (h : Shows w a ((cs.drop k).take m)) (hm : cs.length = k + m) : Shows w a (cs.drop k) := by
 rw [List.take_of_length_le (by simp; omega)] at h; exact h
theorem qvs {ds : List D} {cs : Array Value} (h : Shows w ds cs.toList) : Rep w q48 (.agg ds) (.agg cs) :=
 .agg ds cs (by simpa using h.1) (fun j c hj => by
  have := h.2 j c hj;rw [List.getD_eq_getElem?_getD] at this;rw [Array.getD_eq_getD_getElem?];simpa using this)
end
end Go.Ab
namespace Go.Proofs.YtbmelgbadedbbaaGreat
open Go Go.Ab Go.ChangeShapes Go.WideShapes Go.RowKit
section
variable {H : Type} {enc : TypeId × Value → H} {w : World} {spare : Nat → Bool} {held : Bool}
theorem qe0 (n : Nat) : Opens enc Tryz.prog w spare held n 40 q14 (fun _ => True) := by
 intro cs d p h hw;obtain ⟨m, rfl, hl, hf⟩ := qn7 Tryz.underlying40 h hw;have c0 : Tryz.prog.cellsOf 40 = 3 := by kernel_rfl
 have c1 : Tryz.prog.cellsOf 3 = 1 := by kernel_rfl
 obtain ⟨d0, p0, t0, w0⟩ := hf 0 _ rfl;replace t0 : DataW.trod enc Tryz.prog w 0 spare held m 3 ((cs.drop 0).take (Tryz.prog.cellsOf 3)) = some (d0, p0) := t0;rw [c1] at t0;obtain ⟨z0, _, s0⟩ := qgj Tryz.underlying3 _ _ _ t0 w0;obtain ⟨d1, p1, t1, w1⟩ := hf 1 _ rfl;replace t1 : DataW.trod enc Tryz.prog w 0 spare held m 3 ((cs.drop 1).take (Tryz.prog.cellsOf 3)) = some (d1, p1) := t1;rw [c1] at t1;obtain ⟨z1, _, s1⟩ := qgj Tryz.underlying3 _ _ _ t1 w1;obtain ⟨d2, p2, t2, w2⟩ := hf 2 _ rfl;replace t2 : DataW.trod enc Tryz.prog w 0 spare held m 3 ((cs.drop 2).take (Tryz.prog.cellsOf 3)) = some (d2, p2) := t2;rw [c1] at t2;obtain ⟨z2, _, s2⟩ := qgj Tryz.underlying3 _ _ _ t2 w2;refine ⟨⟨z0, z1, z2⟩, trivial, ?_⟩
 show Shows w ([D.v (.int .i64 z0)] ++ ([D.v (.int .i64 z1)] ++ [D.v (.int .i64 z2)])) (cs.drop 0);exact qkz (m := 1) rfl s0 (qkz (m := 1) rfl s1 (qv4 s2 (by rw [hl, c0])))
end
end Go.Proofs.YtbmelgbadedbbaaGreat
