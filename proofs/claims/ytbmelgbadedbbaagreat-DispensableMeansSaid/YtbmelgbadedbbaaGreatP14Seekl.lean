/- The sets in their order; the function that seeks the first of them; when a trust implies another one. -/
import Derived.Test.YtbmelgbadedbbaaGreatP14Inter
import Derived.Test.YtbmelgbadedbbaaGreatP14Seek
namespace Go.Proofs.YtbmelgbadedbbaaGreat
open Go Go.Ab Go.Sort
theorem qd5 (s : Nat) : ∀ n i, q0q s n i = ((List.range' i n).filter fun j => s.testBit j)
 | 0, i => by simp [q0q]
 | n + 1, i => by
  simp only [q0q, List.range'_succ, List.filter_cons, qd5 s n (i + 1)]
theorem qnc (s : Nat) : nodes s = (List.range 10).filter fun i => s.testBit i := by
 rw [nodes, qd5, List.range_eq_range']
theorem y2x {k s : Nat} (hs : s < 1024) : (((List.range 10).filter fun i => s.testBit i).length == k) = (subB s 1023 && (pc s == k)) := by
 have h1 : subB s 1023 = true := q61.2 (q1i.1 (show s < 2 ^ 10 from hs))
 rw [h1, Bool.true_and, pc, qnc]
theorem q5t : setOrder = (q1g 1023).map Int.ofNat := by
 have key : ((List.range 11).flatMap fun k => (List.range 1024).filter fun s => ((List.range 10).filter fun i => s.testBit i).length == k) = q1g 1023 := by
  have h10 : pc 1023 = 10 := qd1 10 (by decide)
  unfold q1g pick;rw [h10];apply congrArg (fun f => List.flatMap f (List.range 11))
  funext k
  apply List.filter_congr;intro s hs;exact y2x (List.mem_range.1 hs)
 rw [← key];rfl
theorem qgv : setOrder.Nodup := by
 rw [q5t];refine List.Pairwise.map _ (fun a b h => ?_) (q3q 1023)
 intro e;have e' : a = b := Int.ofNat.inj e;rw [e'] at h;exact q17 _ h
theorem qjb : ∃ r, setOrder = 0 :: r := by
 obtain ⟨suf, h⟩ := qft 1023;exact ⟨suf.map Int.ofNat, by rw [q5t, h]; rfl⟩
theorem y2p : qjg env := by
 intro f nx xs h;obtain ⟨r, hr⟩ := qjb;have hd := qgv;rw [hr] at hd;have h' : (if List.contains [88] f then some (105, setOrder) else none) = some (nx, xs) := h
 split at h'
 ·rename_i hf;cases h';have : f = 88 := by simpa using hf
  subst this;exact ⟨fun _ => rfl, by rw [hr]; exact qsb hd⟩
 ·cases h'
theorem qlm : ∀ (suf pre : List Nat), q1g 1023 = pre ++ suf → qqf (fun x => z4x x 10) (suf.map Int.ofNat)
 | [], _, _ => trivial
 | [s], pre, e => by
  have hord := q3q 1023;have hs : s < 2 ^ 10 := q1i.2 (q0u.1 (by rw [e]; simp))
  obtain ⟨t', b, g1, g2, g3⟩ := qef (n := 10) (by decide) hs
  cases b with
  | false => exact ⟨_, g1⟩
  | true =>
   obtain ⟨h1, h2, _⟩ := g2 rfl;have hm : t' ∈ q1g 1023 := q0u.2 (q1i.1 h1);rw [e] at hm hord;rw [List.pairwise_append] at hord;rcases List.mem_append.1 hm with h | h
   ·exact absurd (q5q h2 (hord.2.2 t' h s (by simp))) (q17 _)
   ·simp at h; subst h; exact absurd h2 (q17 _)
 | s :: t :: suf, pre, e => by
  have hord := q3q 1023;have hs : s < 2 ^ 10 := q1i.2 (q0u.1 (by rw [e]; simp))
  have ht : t < 2 ^ 10 := q1i.2 (q0u.1 (by rw [e]; simp))
  have hst : nlt s t := by
   rw [e, List.pairwise_append, List.pairwise_cons] at hord;exact hord.2.1.1 t (by simp)
  obtain ⟨t', b, g1, g2, g3⟩ := qef (n := 10) (by decide) hs
  refine ⟨?_, qlm (t :: suf) (pre ++ [s]) (by rw [e]; simp)⟩
  cases b with
  | false => exact absurd hst (g3 rfl t ht)
  | true =>
   obtain ⟨h1, h2, h3⟩ := g2 rfl;rcases h3 t ht hst with h | h
   ·subst h; exact g1
   ·exfalso;have hm : t' ∈ q1g 1023 := q0u.2 (q1i.1 h1);rw [e] at hm hord;rw [List.pairwise_append, List.pairwise_cons, List.pairwise_cons] at hord;rcases List.mem_append.1 hm with hm | hm
    ·exact q17 _ (q5q h2 (hord.2.2 t' hm s (by simp)))
    ·rcases List.mem_cons.1 hm with hm | hm
     ·subst hm; exact q17 _ h2
     ·rcases List.mem_cons.1 hm with hm | hm
      ·subst hm; exact q17 _ h
      ·exact q17 _ (q5q h (hord.2.1.2.1 t' hm))
def qu6 : Option Nat → Int × Bool
 | some s => (s, true)
 | none => (0, false)
set_option maxRecDepth 100000 in
theorem qwl {a b : Trust} (ha : Small a) (hb : Small b) : z56 a.Threshold a.Nodes a.Inner b.Threshold b.Nodes b.Inner =
  some ((qu6 ((q1g 1023).find? fun s => sat s a && !sat s b)).1, (qu6 ((q1g 1023).find? fun s => sat s a && !sat s b)).2, a.Threshold, a.Nodes, a.Inner, b.Threshold, b.Nodes, b.Inner) := by
 refine qst (T := tn) (nx := 105) (xs := setOrder) sigOk (by kernel_rfl) (by kernel_rfl) (by kernel_rfl) (by have := qlm (q1g 1023) [] rfl; rw [← q5t] at this; exact this) (p := fun z => sat z.toNat a && !sat z.toNat b) (oc := ⟨[.lf .b], [[.lf (.i .i64), .lf (.l .i64), .lf (.l .Trust)], [.lf (.i .i64), .lf (.l .i64), .lf (.l .Trust)]]⟩)
  (fun z hz => ?_) ?_ rfl
 ·rw [q5t] at hz;obtain ⟨s, hs, rfl⟩ := List.mem_map.1 hz;have hlt : s < 1024 := by
   have : s < 2 ^ 10 := q1i.2 (q0u.1 hs);omega
  refine ⟨(sat s a && !sat s b, a.Threshold, a.Nodes, a.Inner, b.Threshold, b.Nodes, b.Inner), ?_, rfl, rfl⟩;show z5h (Int.ofNat s) a.Threshold a.Nodes a.Inner b.Threshold b.Nodes b.Inner = _;apply y3i;rw [show Int.ofNat s = ((s : Nat) : Int) from rfl, show Trust.mk a.Threshold a.Nodes a.Inner = a by cases a; rfl, show Trust.mk b.Threshold b.Nodes b.Inner = b by cases b; rfl, q3s hlt a ha, q3s hlt b hb]
  cases sat s a <;> rfl
 ·rw [q5t];have : ((q1g 1023).map Int.ofNat).find? (fun z => sat z.toNat a && !sat z.toNat b) = ((q1g 1023).find? fun s => sat s a && !sat s b).map Int.ofNat := by
   rw [List.find?_map]; rfl
  rw [this];cases (q1g 1023).find? fun s => sat s a && !sat s b <;> rfl
def impB (a b : Trust) : Bool := ((q1g 1023).find? fun s => sat s a && !sat s b).isNone
theorem qp6 {a b : Trust} : impB a b = true ↔ ∀ s, s < 1024 → sat s a = true → sat s b = true := by
 simp only [impB, Option.isNone_iff_eq_none, List.find?_eq_none, Bool.and_eq_true, Bool.not_eq_true', not_and, Bool.not_eq_false];constructor
 ·intro h s hs; exact h s (q0u.2 (q1i.1 (by omega : s < 2 ^ 10)))
 ·intro h s hs; exact h s (by have : s < 2 ^ 10 := q1i.2 (q0u.1 hs); omega)
theorem qrq {a b : Trust} (ha : valid a = true) (hb : valid b = true) : ∃ z, z5c a b = some (impB a b, z, 0) := by
 have h1 := q2r ha;have h2 := q2r hb;refine ⟨(qu6 ((q1g 1023).find? fun s => sat s a && !sat s b)).1, ?_⟩
 apply y6q;have hv : z5q a b = some 0 := by
  apply y4g;rw [qk4 a h1, (q70 a).2 ha];simp only [Option.bind_some, q0b, cond_false];rw [qk4 b h2, (q70 b).2 hb];rfl
 rw [hv];simp only [Option.bind_some, q0b, cond_false];rw [qwl h1 h2];simp only [Option.bind_some, impB];cases (q1g 1023).find? fun s => sat s a && !sat s b <;> rfl
end Go.Proofs.YtbmelgbadedbbaaGreat
