/- The row of IntactExplains, from its answer on the machine: several arguments. -/
import Derived.Test.YtjfhnffdijlboaaGreatP15SegB
import Derived.SizedLaws
namespace Go.Proofs.YtjfhnffdijlboaaGreat
open Go Go.Ab Go.ChangeShapes Go.WideShapes Go.ChangeAt Go.WideMaps Go.WideElems Go.RowKit
def LawA : Prop := ∀ (x0 : List Int) (x1 : Explanation), (x1.Refutations.length < 1152921504606846976) →
 ∃ n h', call env n 7 [.d (ints .i64 x0), .d (q18 x1)] [] = some (.d (.v (.bool true)), h')
theorem lawA_of (h : ∀ (x0 : List Int) (x1 : Explanation), (x1.Refutations.length < 1152921504606846976) → law15_IntactExplains x0 x1 = some true) : LawA := by
 intro x0 x1 g1;obtain ⟨m, hm⟩ := q6z (h x0 x1 g1);refine ⟨m, [], ?_⟩;rw [show q18 x1 = (packT (S := sig) true (q52 x1)).toD from sigOk.enc_eq .Explanation x1];exact hm
theorem qkq (hlaw : LawA) {W : World} {v0 v1 : Value} {x0 : List Int} {x1 : Explanation} (g1 : (x1.Refutations.length < 1152921504606846976))
  (h0 : Rep W q48 (ints .i64 x0) v0) (h1 : Rep W q48 (q18 x1) v1) :
  Calls Tryz.prog 7 #[v0, v1] W fun e W' => e = .returned (.bool true) ∧ Below W.heap.size W W' := by
 obtain ⟨n, h', hcall⟩ := hlaw x0 x1 g1;exact top (E := env) (y2m n) (fun g cs hg => by cases hg) (ds := [ints .i64 x0, q18 x1]) hcall rfl (fun i d hd => by
  match i, hd with
  | 0, hd => simp at hd; subst hd; exact h0
  | 1, hd => simp at hd; subst hd; exact h1
  | n + 2, hd => simp at hd)
set_option maxRecDepth 100000 in
theorem explains_lifted (hlaw : LawA) (os : Os) (started : os.Started) (H : Type) (enc : TypeId × Value → H) :
  ReturnsInHanded {} Tryz.checked os 7 .any (Rows.intactExplainsSpec.pre6 enc Tryz.prog Tryz.f7 [] false) (Rows.intactExplainsSpec.post enc Tryz.prog Tryz.f7 false true false false) := by
 refine returnsInHanded_of_change_sized (C := Tryz.checked) Tryz.own started (by kernel_rfl) Tryz.func7
  (ChangeSpec.witness6 (enc := enc) (C := Tryz.checked) false ⟨#[], #[.slice none 0 0, .agg #[.int .i64 0, .int .i64 0, .int .i64 0, .int .i64 0, .slice none 0 0]], []⟩ 8 (by kernel_rfl) (by kernel_rfl) (by kernel_rfl) (by kernel_rfl)) ?_
 intro W base args ds gs before hval0 hW _ hS _;have hval : ∀ (j : Nat) t v, Tryz.f7.params[j]? = some t → args[j]? = some v → Value.okWide Tryz.prog W .any base t v := hval0;have hS' : (DataW.weightsEach Tryz.prog (Tryz.f7.params.toList ++ []) (ds ++ gs)).all (· ≤ reachBytes) = true := hS;have hW' := hW;obtain ⟨p, q, hA0, hV, rfl, hfz, hnd⟩ := hW;have hA : DataW.TrodAll enc Tryz.prog W 0 (fun _ => true) true Tryz.f7.params.toList args.toList ds p := hA0;rw [Tryz.params7] at hA hval hS';obtain ⟨v0, vs0, d0, ds0, p0, q0, e0, rfl, rfl, h0, hA1⟩ := trodAll_cons hA;obtain ⟨v1, vs1, d1, ds1, p1, q1, rfl, rfl, rfl, h1, hA2⟩ := trodAll_cons hA1;obtain ⟨rfl, rfl, rfl⟩ := trodAll_nil hA2;have hargs : args = #[v0, v1] := by cases args; simp at e0; simp [e0]
 subst hargs;obtain ⟨rfl, rfl⟩ := trodVars_none hV;clear hA0 hval0 hA hA1 hA2;simp only [List.append_nil] at hW' hS';have hlt : ∀ x ∈ p0 ++ p1, x.block < W.heap.size := fun x hx => by
  have := hW'.lt x (by simpa using hx);simpa using this
 obtain ⟨zs0, hv0⟩ : ∃ zs : List Int, Rep W q48 (ints .i64 zs) v0 := by
  obtain ⟨a0, len, cap, rfl⟩ := okWide_slice Tryz.underlying22 (hval 0 22 v0 rfl rfl);obtain ⟨fuel, hf⟩ := h0;rcases open_ints Tryz.underlying22 Tryz.underlying3 (by kernel_rfl) hf with ⟨e, _⟩ | ⟨a, len', cap', zs, e, _, hlc, _, hzl, _, hcell, hw⟩
  ·have e' : Value.slice a0 len cap = .slice Option.none 0 0 := by simpa [Value.cells] using e
   rw [e'];exact ⟨[], q59 _ _ _⟩
  ·have e' : Value.slice a0 len cap = .slice (some a) len' cap' := by simpa [Value.cells] using e
   rw [e'];exact ⟨zs.take len', qcv (by rw [hzl]; split <;> omega) hlc hcell⟩
 obtain ⟨c1, hc1, hv1⟩ : ∃ c : Explanation, (c.Refutations.length < 1152921504606846976) ∧ Rep W q48 (q18 c) v1 := by
  have hk := hval 1 51 v1 rfl rfl;simp only [Value.okWide, Tryz.underlying51] at hk;obtain ⟨cs, rfl, _⟩ := hk;obtain ⟨fuel, hf⟩ := h1;obtain ⟨c, hc, hs⟩ := qdm fuel _ _ _ hf (q63 hS' 1 51 d1 rfl rfl);exact ⟨c, hc, by exact qub hs⟩
 refine (qkq hlaw hc1 hv0 hv1).mono fun e W' ⟨he, hb⟩ => ?_
 subst he;have back : DataW.TrodAll enc Tryz.prog W' 0 (fun b => decide (b < W.heap.size)) true [22, 51] [v0, v1] [d0, d1] (p0 ++ p1) :=
  ⟨p0, _, Below.trod Tryz.laidOut (by kernel_rfl) (of_decide_eq_true (by kernel_rfl)) h0 hb (fun x hx => hlt x (by simp [hx])), trodAll_mk1 (Below.trod Tryz.laidOut (by kernel_rfl) (of_decide_eq_true (by kernel_rfl)) h1 hb (fun x hx => hlt x (by simp [hx]))), rfl⟩
 exact ⟨_, rfl, ⟨_, _, _, [], _, [], hW', trodAll_mk1 (shut_bool Tryz.underlying4 _), back, rfl, hb.frame _, fun h => by cases h⟩⟩
theorem qkb (hlaw : LawA) : Rows.IntactExplainsSaid :=
 OpenClaim.holds_of_wide 7 Tryz.f7 rfl rfl rfl rfl rfl rfl rfl ⟨rfl, rfl, rfl, rfl, rfl⟩ rfl rfl rfl rfl rfl (by kernel_rfl) Tryz.func7 (by kernel_rfl)
  (of_decide_eq_true (by kernel_rfl)) (by unfold Func.isWrapper; first | (rw [if_pos (by decide +kernel)]; kernel_rfl) | (rw [if_neg (by decide +kernel)]; exact ⟨rfl, rfl⟩))
  (fun os started H enc _ => explains_lifted hlaw os started H enc)
theorem explains_proved : Rows.IntactExplainsSaid := qkb (lawA_of (qmg))
end Go.Proofs.YtjfhnffdijlboaaGreat
