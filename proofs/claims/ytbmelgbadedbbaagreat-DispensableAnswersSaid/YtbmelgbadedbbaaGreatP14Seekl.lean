/- The sets in their order; the function that seeks the first of them; when a trust implies another one. -/
import Derived.Test.YtbmelgbadedbbaaGreatP14Inter
import Derived.Test.YtbmelgbadedbbaaGreatP14Seek
namespace Go.Proofs.YtbmelgbadedbbaaGreat
open Go Go.Ab Go.Sort
theorem qdu (s : Nat) : ∀ n i, q0u s n i = ((List.range' i n).filter fun j => s.testBit j)
 | 0, i => by simp [q0u]
 | n + 1, i => by
  simp only [q0u, List.range'_succ, List.filter_cons, qdu s n (i + 1)]
theorem qg8 (s : Nat) : nodes s = (List.range 10).filter fun i => s.testBit i := by
 rw [nodes, qdu, List.range_eq_range']
theorem y29 {k s : Nat} (hs : s < 1024) : (((List.range 10).filter fun i => s.testBit i).length == k) = (subB s 1023 && (pc s == k)) := by
 have h1 : subB s 1023 = true := q5v.2 (q1k.1 (show s < 2 ^ 10 from hs))
 rw [h1, Bool.true_and, pc, qg8]
theorem q5j : setOrder = (q1j 1023).map Int.ofNat := by
 have key : ((List.range 11).flatMap fun k => (List.range 1024).filter fun s => ((List.range 10).filter fun i => s.testBit i).length == k) = q1j 1023 := by
  have h10 : pc 1023 = 10 := qd8 10 (by decide)
  unfold q1j pick;rw [h10];apply congrArg (fun f => List.flatMap f (List.range 11))
  funext k
  apply List.filter_congr;intro s hs;exact y29 (List.mem_range.1 hs)
 rw [← key];rfl
theorem qhc : setOrder.Nodup := by
 rw [q5j];refine List.Pairwise.map _ (fun a b h => ?_) (q3n 1023)
 intro e;have e' : a = b := Int.ofNat.inj e;rw [e'] at h;exact q18 _ h
theorem qip : ∃ r, setOrder = 0 :: r := by
 obtain ⟨suf, h⟩ := qet 1023;exact ⟨suf.map Int.ofNat, by rw [q5j, h]; rfl⟩
theorem y32 : qk6 env := by
 intro f nx xs h;obtain ⟨r, hr⟩ := qip;have hd := qhc;rw [hr] at hd;have h' : (if List.contains [88] f then some (105, setOrder) else none) = some (nx, xs) := h
 split at h'
 ·rename_i hf;cases h';have : f = 88 := by simpa using hf
  subst this;exact ⟨fun _ => rfl, by rw [hr]; exact qs2 hd⟩
 ·cases h'
theorem qlb : ∀ (suf pre : List Nat), q1j 1023 = pre ++ suf → qq4 (fun x => z58 x 10) (suf.map Int.ofNat)
 | [], _, _ => trivial
 | [s], pre, e => by
  have hord := q3n 1023;have hs : s < 2 ^ 10 := q1k.2 (q0x.1 (by rw [e]; simp))
  obtain ⟨t', b, g1, g2, g3⟩ := qek (n := 10) (by decide) hs
  cases b with
  | false => exact ⟨_, g1⟩
  | true =>
   obtain ⟨h1, h2, _⟩ := g2 rfl;have hm : t' ∈ q1j 1023 := q0x.2 (q1k.1 h1);rw [e] at hm hord;rw [List.pairwise_append] at hord;rcases List.mem_append.1 hm with h | h
   ·exact absurd (q5l h2 (hord.2.2 t' h s (by simp))) (q18 _)
   ·simp at h; subst h; exact absurd h2 (q18 _)
 | s :: t :: suf, pre, e => by
  have hord := q3n 1023;have hs : s < 2 ^ 10 := q1k.2 (q0x.1 (by rw [e]; simp))
  have ht : t < 2 ^ 10 := q1k.2 (q0x.1 (by rw [e]; simp))
  have hst : nlt s t := by
   rw [e, List.pairwise_append, List.pairwise_cons] at hord;exact hord.2.1.1 t (by simp)
  obtain ⟨t', b, g1, g2, g3⟩ := qek (n := 10) (by decide) hs
  refine ⟨?_, qlb (t :: suf) (pre ++ [s]) (by rw [e]; simp)⟩
  cases b with
  | false => exact absurd hst (g3 rfl t ht)
  | true =>
   obtain ⟨h1, h2, h3⟩ := g2 rfl;rcases h3 t ht hst with h | h
   ·subst h; exact g1
   ·exfalso;have hm : t' ∈ q1j 1023 := q0x.2 (q1k.1 h1);rw [e] at hm hord;rw [List.pairwise_append, List.pairwise_cons, List.pairwise_cons] at hord;rcases List.mem_append.1 hm with hm | hm
    ·exact q18 _ (q5l h2 (hord.2.2 t' hm s (by simp)))
    ·rcases List.mem_cons.1 hm with hm | hm
     ·subst hm; exact q18 _ h2
     ·rcases List.mem_cons.1 hm with hm | hm
      ·subst hm; exact q18 _ h
      ·exact q18 _ (q5l h (hord.2.1.2.1 t' hm))
def quy : Option Nat → Int × Bool
 | some s => (s, true)
 | none => (0, false)
set_option maxRecDepth 100000 in
theorem qvq {a b : Trust} (ha : Small a) (hb : Small b) : z5h a.Threshold a.Nodes a.Inner b.Threshold b.Nodes b.Inner =
  some ((quy ((q1j 1023).find? fun s => sat s a && !sat s b)).1, (quy ((q1j 1023).find? fun s => sat s a && !sat s b)).2, a.Threshold, a.Nodes, a.Inner, b.Threshold, b.Nodes, b.Inner) := by
 refine qsj (T := tn) (nx := 105) (xs := setOrder) sigOk (by kernel_rfl) (by kernel_rfl) (by kernel_rfl) (by have := qlb (q1j 1023) [] rfl; rw [← q5j] at this; exact this) (p := fun z => sat z.toNat a && !sat z.toNat b) (oc := ⟨[.lf .b], [[.lf (.i .i64), .lf (.l .i64), .lf (.l .Trust)], [.lf (.i .i64), .lf (.l .i64), .lf (.l .Trust)]]⟩)
  (fun z hz => ?_) ?_ rfl
 ·rw [q5j] at hz;obtain ⟨s, hs, rfl⟩ := List.mem_map.1 hz;have hlt : s < 1024 := by
   have : s < 2 ^ 10 := q1k.2 (q0x.1 hs);omega
  refine ⟨(sat s a && !sat s b, a.Threshold, a.Nodes, a.Inner, b.Threshold, b.Nodes, b.Inner), ?_, rfl, rfl⟩;show z5t (Int.ofNat s) a.Threshold a.Nodes a.Inner b.Threshold b.Nodes b.Inner = _;apply y4i;rw [show Int.ofNat s = ((s : Nat) : Int) from rfl, show Trust.mk a.Threshold a.Nodes a.Inner = a by cases a; rfl, show Trust.mk b.Threshold b.Nodes b.Inner = b by cases b; rfl, q3v hlt a ha, q3v hlt b hb]
  cases sat s a <;> rfl
 ·rw [q5j];have : ((q1j 1023).map Int.ofNat).find? (fun z => sat z.toNat a && !sat z.toNat b) = ((q1j 1023).find? fun s => sat s a && !sat s b).map Int.ofNat := by
   rw [List.find?_map]; rfl
  rw [this];cases (q1j 1023).find? fun s => sat s a && !sat s b <;> rfl
def impB (a b : Trust) : Bool := ((q1j 1023).find? fun s => sat s a && !sat s b).isNone
theorem qy2 {a b : Trust} : impB a b = true ↔ ∀ s, s < 1024 → sat s a = true → sat s b = true := by
 simp only [impB, Option.isNone_iff_eq_none, List.find?_eq_none, Bool.and_eq_true, Bool.not_eq_true', not_and, Bool.not_eq_false];constructor
 ·intro h s hs; exact h s (q0x.2 (q1k.1 (by omega : s < 2 ^ 10)))
 ·intro h s hs; exact h s (by have : s < 2 ^ 10 := q1k.2 (q0x.1 hs); omega)
theorem qs0 {a b : Trust} (ha : valid a = true) (hb : valid b = true) : ∃ z, z5n a b = some (impB a b, z, 0) := by
 have h1 := q2z ha;have h2 := q2z hb;refine ⟨(quy ((q1j 1023).find? fun s => sat s a && !sat s b)).1, ?_⟩
 apply y64;have hv : z63 a b = some 0 := by
  apply y5z;rw [qix a h1, (q6w a).2 ha];simp only [Option.bind_some, q0d, cond_false];rw [qix b h2, (q6w b).2 hb];rfl
 rw [hv];simp only [Option.bind_some, q0d, cond_false];rw [qvq h1 h2];simp only [Option.bind_some, impB];cases (q1j 1023).find? fun s => sat s a && !sat s b <;> rfl
end Go.Proofs.YtbmelgbadedbbaaGreat
