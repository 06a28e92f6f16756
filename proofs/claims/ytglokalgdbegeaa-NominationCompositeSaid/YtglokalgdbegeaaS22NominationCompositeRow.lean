/- The row of NominationComposite, from its answer on the machine: several arguments. -/
import Derived.Test.YtglokalgdbegeaaS22SegB
import Derived.SizedLaws
namespace Go.Proofs.Ytglokalgdbegeaa
open Go Go.Ab Go.ChangeShapes Go.WideShapes Go.ChangeAt Go.WideMaps Go.WideElems Go.RowKit
def LawA : Prop := ∀ (x0 : List (List UInt8)) (x1 : List (List UInt8)), (x0.length < 1152921504606846976) → (x1.length < 1152921504606846976) →
 ∃ n h', call env n 3 [.d (.list (x0.map enc_s)), .d (.list (x1.map enc_s))] [] = some (.d (.v (.bool true)), h')
theorem lawA_of (h : ∀ (x0 : List (List UInt8)) (x1 : List (List UInt8)), (x0.length < 1152921504606846976) → (x1.length < 1152921504606846976) → law22_NominationComposite x0 x1 = some true) : LawA := by
 intro x0 x1 g0 g1;obtain ⟨m, hm⟩ := qkk (h x0 x1 g0 g1);refine ⟨m, [], ?_⟩;exact hm
theorem qh2 (hlaw : LawA) {W : World} {v0 v1 : Value} {x0 : List (List UInt8)} {x1 : List (List UInt8)} (g0 : (x0.length < 1152921504606846976)) (g1 : (x1.length < 1152921504606846976))
  (h0 : Rep W q91 (.list (x0.map enc_s)) v0) (h1 : Rep W q91 (.list (x1.map enc_s)) v1) :
  Calls Try.prog 3 #[v0, v1] W fun e W' => e = .returned (.bool true) ∧ Below W.heap.size W W' := by
 obtain ⟨n, h', hcall⟩ := hlaw x0 x1 g0 g1;exact top (E := env) (y07 n) (fun g cs hg => by cases hg) (ds := [.list (x0.map enc_s), .list (x1.map enc_s)]) hcall rfl (fun i d hd => by
  match i, hd with
  | 0, hd => simp at hd; subst hd; exact h0
  | 1, hd => simp at hd; subst hd; exact h1
  | n + 2, hd => simp at hd)
set_option maxRecDepth 100000 in
theorem composite_lifted (hlaw : LawA) (os : Os) (started : os.Started) (H : Type) (enc : TypeId × Value → H) :
  ReturnsInHanded {} Try.checked os 3 .any (Rows.nominationCompositeSpec.pre6 enc Try.prog Try.f3 [] false) (Rows.nominationCompositeSpec.post enc Try.prog Try.f3 false true false false) := by
 refine returnsInHanded_of_change_sized (C := Try.checked) Try.own started (by kernel_rfl) Try.func3
  (ChangeSpec.witness6 (enc := enc) (C := Try.checked) false ⟨#[], #[.slice none 0 0, .slice none 0 0], []⟩ 8 (by kernel_rfl) (by kernel_rfl) (by kernel_rfl) (by kernel_rfl)) ?_
 intro W base args ds gs before hval0 hW _ hS _;have hval : ∀ (j : Nat) t v, Try.f3.params[j]? = some t → args[j]? = some v → Value.okWide Try.prog W .any base t v := hval0;have hS' : (DataW.weightsEach Try.prog (Try.f3.params.toList ++ []) (ds ++ gs)).all (· ≤ reachBytes) = true := hS;have hW' := hW;obtain ⟨p, q, hA0, hV, rfl, hfz, hnd⟩ := hW;have hA : DataW.TrodAll enc Try.prog W 0 (fun _ => true) true Try.f3.params.toList args.toList ds p := hA0;rw [Try.params3] at hA hval hS';obtain ⟨v0, vs0, d0, ds0, p0, q0, e0, rfl, rfl, h0, hA1⟩ := trodAll_cons hA;obtain ⟨v1, vs1, d1, ds1, p1, q1, rfl, rfl, rfl, h1, hA2⟩ := trodAll_cons hA1;obtain ⟨rfl, rfl, rfl⟩ := trodAll_nil hA2;have hargs : args = #[v0, v1] := by cases args; simp at e0; simp [e0]
 subst hargs;obtain ⟨rfl, rfl⟩ := trodVars_none hV;clear hA0 hval0 hA hA1 hA2;simp only [List.append_nil] at hW' hS';have hlt : ∀ x ∈ p0 ++ p1, x.block < W.heap.size := fun x hx => by
  have := hW'.lt x (by simpa using hx);simpa using this
 obtain ⟨c0, hc0, hv0⟩ : ∃ c : List (List UInt8), c.length < 1152921504606846976 ∧ Rep W q91 (.list (c.map enc_s)) v0 := by
  obtain ⟨a0, len, cap, rfl⟩ := okWide_slice Try.underlying22 (hval 0 22 v0 rfl rfl);obtain ⟨fuel, hf⟩ := h0;obtain ⟨c, hc, hs⟩ := qgp (f := enc_s) (good := fun _ => True) Try.underlying22 (show Try.prog.cellsOf 9 = 1 by kernel_rfl) (by decide) (of_decide_eq_true (by kernel_rfl)) (fun _ => rfl) (fun k _ => qk7 Try.underlying9) _ _ _ hf (q4z hS' 0 22 d0 rfl rfl);exact ⟨c, hc.1, hs.2 0 _ rfl⟩
 obtain ⟨c1, hc1, hv1⟩ : ∃ c : List (List UInt8), c.length < 1152921504606846976 ∧ Rep W q91 (.list (c.map enc_s)) v1 := by
  obtain ⟨a0, len, cap, rfl⟩ := okWide_slice Try.underlying22 (hval 1 22 v1 rfl rfl);obtain ⟨fuel, hf⟩ := h1;obtain ⟨c, hc, hs⟩ := qgp (f := enc_s) (good := fun _ => True) Try.underlying22 (show Try.prog.cellsOf 9 = 1 by kernel_rfl) (by decide) (of_decide_eq_true (by kernel_rfl)) (fun _ => rfl) (fun k _ => qk7 Try.underlying9) _ _ _ hf (q4z hS' 1 22 d1 rfl rfl);exact ⟨c, hc.1, hs.2 0 _ rfl⟩
 refine (qh2 hlaw hc0 hc1 hv0 hv1).mono fun e W' ⟨he, hb⟩ => ?_
 subst he;have back : DataW.TrodAll enc Try.prog W' 0 (fun b => decide (b < W.heap.size)) true [22, 22] [v0, v1] [d0, d1] (p0 ++ p1) :=
  ⟨p0, _, Below.trod Try.laidOut (by kernel_rfl) (of_decide_eq_true (by kernel_rfl)) h0 hb (fun x hx => hlt x (by simp [hx])), trodAll_mk1 (Below.trod Try.laidOut (by kernel_rfl) (of_decide_eq_true (by kernel_rfl)) h1 hb (fun x hx => hlt x (by simp [hx]))), rfl⟩
 exact ⟨_, rfl, ⟨_, _, _, [], _, [], hW', trodAll_mk1 (shut_bool Try.underlying4 _), back, rfl, hb.frame _, fun h => by cases h⟩⟩
theorem qgt (hlaw : LawA) : Rows.NominationCompositeSaid :=
 OpenClaim.holds_of_wide 3 Try.f3 rfl rfl rfl rfl rfl rfl rfl ⟨rfl, rfl, rfl, rfl, rfl⟩ rfl rfl rfl rfl rfl (by kernel_rfl) Try.func3 (by kernel_rfl)
  (of_decide_eq_true (by kernel_rfl)) (by unfold Func.isWrapper; first | (rw [if_pos (by decide +kernel)]; kernel_rfl) | (rw [if_neg (by decide +kernel)]; exact ⟨rfl, rfl⟩))
  (fun os started H enc _ => composite_lifted hlaw os started H enc)
theorem composite_proved : Rows.NominationCompositeSaid := qgt (lawA_of (fun a b _ _ => qio a b))
end Go.Proofs.Ytglokalgdbegeaa
