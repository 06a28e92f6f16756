/- The row of IntactAnswers, from its answer on the machine: several arguments. -/
import Derived.Test.YtjfhnffdijlboaaGreatP15SegB
import Derived.SizedLaws
namespace Go.Proofs.YtjfhnffdijlboaaGreat
open Go Go.Ab Go.ChangeShapes Go.WideShapes Go.ChangeAt Go.WideMaps Go.WideElems Go.RowKit
def LawA : Prop := ∀ (x0 : List Int) (x1 : Config) (x2 : Config) (x3 : Int) (x4 : Int) (x5 : Explanation), (∀ m ∈ x1.Members, raw m.Trust = true) -> (∀ m ∈ x2.Members, raw m.Trust = true) -> (x5.Refutations.length < 1152921504606846976) ->
 ∃ n h', call env n 8 [.d (ints .i64 x0), .d (q1j x1), .d (q1j x2), .d (.v (.int .i64 x3)), .d (.v (.int .i64 x4)), .d (q16 x5)] [] = some (.d (.v (.bool true)), h')
theorem lawA_of (h : ∀ (x0 : List Int) (x1 : Config) (x2 : Config) (x3 : Int) (x4 : Int) (x5 : Explanation), (∀ m ∈ x1.Members, raw m.Trust = true) -> (∀ m ∈ x2.Members, raw m.Trust = true) -> (x5.Refutations.length < 1152921504606846976) -> law15_IntactAnswers x0 x1 x2 x3 x4 x5 = some true) : LawA := by
 intro x0 x1 x2 x3 x4 x5 g1 g2 g5;obtain ⟨m, hm⟩ := q9k (h x0 x1 x2 x3 x4 x5 g1 g2 g5);refine ⟨m, [], ?_⟩;rw [show q1j x1 = (packT (S := sig) true (q6l x1)).toD from sigOk.enc_eq .Config x1, show q1j x2 = (packT (S := sig) true (q6l x2)).toD from sigOk.enc_eq .Config x2, show q16 x5 = (packT (S := sig) true (q4q x5)).toD from sigOk.enc_eq .Explanation x5];exact hm
theorem qlv (hlaw : LawA) {W : World} {v0 v1 v2 v5 : Value} {x0 : List Int} {x1 : Config} {x2 : Config} {x3 : Int} {x4 : Int} {x5 : Explanation} (g1 : (∀ m ∈ x1.Members, raw m.Trust = true)) (g2 : (∀ m ∈ x2.Members, raw m.Trust = true)) (g5 : (x5.Refutations.length < 1152921504606846976))
  (h0 : Rep W q4a (ints .i64 x0) v0) (h1 : Rep W q4a (q1j x1) v1) (h2 : Rep W q4a (q1j x2) v2) (h5 : Rep W q4a (q16 x5) v5) :
  Calls Tryz.prog 8 #[v0, v1, v2, .int .i64 x3, .int .i64 x4, v5] W fun e W' => e = .returned (.bool true) /\ Below W.heap.size W W' := by
 obtain ⟨n, h', hcall⟩ := hlaw x0 x1 x2 x3 x4 x5 g1 g2 g5;exact top (E := env) (yaa n) (fun g cs hg => by cases hg) (ds := [ints .i64 x0, q1j x1, q1j x2, .v (.int .i64 x3), .v (.int .i64 x4), q16 x5]) hcall rfl (fun i d hd => by
  match i, hd with
  | 0, hd => simp at hd; subst hd; exact h0
  | 1, hd => simp at hd; subst hd; exact h1
  | 2, hd => simp at hd; subst hd; exact h2
  | 3, hd => simp at hd; subst hd; exact .v _ rfl
  | 4, hd => simp at hd; subst hd; exact .v _ rfl
  | 5, hd => simp at hd; subst hd; exact h5
  | n + 6, hd => simp at hd)
set_option maxRecDepth 100000 in
theorem answers_lifted (hlaw : LawA) (os : Os) (started : os.Started) (H : Type) (enc : TypeId × Value -> H) :
  ReturnsInHanded {} Tryz.checked os 8 .any (Rows.intactAnswersSpec.pre6 enc Tryz.prog Tryz.f8 [] false) (Rows.intactAnswersSpec.post enc Tryz.prog Tryz.f8 false true false false) := by
 refine returnsInHanded_of_change_sized (C := Tryz.checked) Tryz.own started (by kernel_rfl) Tryz.func8
  (ChangeSpec.witness6 (enc := enc) (C := Tryz.checked) false ⟨#[], #[.slice none 0 0, .agg #[.slice none 0 0], .agg #[.slice none 0 0], .int .i64 0, .int .i64 0, .agg #[.int .i64 0, .int .i64 0, .int .i64 0, .int .i64 0, .slice none 0 0]], []⟩ 8 (by kernel_rfl) (by kernel_rfl) (by kernel_rfl) (by kernel_rfl)) ?_
 intro W base args ds gs before hval0 hW _ hS _;have hval : ∀ (j : Nat) t v, Tryz.f8.params[j]? = some t -> args[j]? = some v -> Value.okWide Tryz.prog W .any base t v := hval0;have hS' : (DataW.weightsEach Tryz.prog (Tryz.f8.params.toList ++ []) (ds ++ gs)).all (· <= reachBytes) = true := hS;have hW' := hW;obtain ⟨p, q, hA0, hV, rfl, hfz, hnd⟩ := hW;have hA : DataW.TrodAll enc Tryz.prog W 0 (fun _ => true) true Tryz.f8.params.toList args.toList ds p := hA0;rw [Tryz.params8] at hA hval hS';obtain ⟨v0, vs0, d0, ds0, p0, q0, e0, rfl, rfl, h0, hA1⟩ := trodAll_cons hA;obtain ⟨v1, vs1, d1, ds1, p1, q1, rfl, rfl, rfl, h1, hA2⟩ := trodAll_cons hA1;obtain ⟨v2, vs2, d2, ds2, p2, q2, rfl, rfl, rfl, h2, hA3⟩ := trodAll_cons hA2;obtain ⟨v3, vs3, d3, ds3, p3, q3, rfl, rfl, rfl, h3, hA4⟩ := trodAll_cons hA3
 obtain ⟨v4, vs4, d4, ds4, p4, q4, rfl, rfl, rfl, h4, hA5⟩ := trodAll_cons hA4;obtain ⟨v5, vs5, d5, ds5, p5, q5, rfl, rfl, rfl, h5, hA6⟩ := trodAll_cons hA5;obtain ⟨rfl, rfl, rfl⟩ := trodAll_nil hA6;have hargs : args = #[v0, v1, v2, v3, v4, v5] := by cases args; simp at e0; simp [e0]
 subst hargs;obtain ⟨rfl, rfl⟩ := trodVars_none hV;clear hA0 hval0 hA hA1 hA2 hA3 hA4 hA5 hA6;simp only [List.append_nil] at hW' hS';have hlt : ∀ x ∈ p0 ++ (p1 ++ (p2 ++ (p3 ++ (p4 ++ p5)))), x.block < W.heap.size := fun x hx => by
  have := hW'.lt x (by simpa using hx);simpa using this
 obtain ⟨zs0, hv0⟩ : ∃ zs : List Int, Rep W q4a (ints .i64 zs) v0 := by
  obtain ⟨a0, len, cap, rfl⟩ := okWide_slice Tryz.underlying22 (hval 0 22 v0 rfl rfl);obtain ⟨fuel, hf⟩ := h0;rcases open_ints Tryz.underlying22 Tryz.underlying3 (by kernel_rfl) hf with ⟨e, _⟩ | ⟨a, len', cap', zs, e, _, hlc, _, hzl, _, hcell, hw⟩
  ·have e' : Value.slice a0 len cap = .slice Option.none 0 0 := by simpa [Value.cells] using e
   rw [e'];exact ⟨[], qmv _ _ _⟩
  ·have e' : Value.slice a0 len cap = .slice (some a) len' cap' := by simpa [Value.cells] using e
   rw [e'];exact ⟨zs.take len', qzy (by rw [hzl]; split <;> omega) hlc hcell⟩
 obtain ⟨c1, hc1, hv1⟩ : ∃ c : Config, (∀ m ∈ c.Members, raw m.Trust = true) /\ Rep W q4a (q1j c) v1 := by
  have hk := hval 1 27 v1 rfl rfl;simp only [Value.okWide, Tryz.underlying27] at hk;obtain ⟨cs, rfl, _⟩ := hk;obtain ⟨fuel, hf⟩ := h1;obtain ⟨c, hc, hs⟩ := qdt fuel _ _ _ hf (q3d hS' 1 27 d1 rfl rfl);exact ⟨c, hc, by exact qg4 hs⟩
 obtain ⟨c2, hc2, hv2⟩ : ∃ c : Config, (∀ m ∈ c.Members, raw m.Trust = true) /\ Rep W q4a (q1j c) v2 := by
  have hk := hval 2 27 v2 rfl rfl;simp only [Value.okWide, Tryz.underlying27] at hk;obtain ⟨cs, rfl, _⟩ := hk;obtain ⟨fuel, hf⟩ := h2;obtain ⟨c, hc, hs⟩ := qdt fuel _ _ _ hf (q3d hS' 2 27 d2 rfl rfl);exact ⟨c, hc, by exact qg4 hs⟩
 obtain ⟨n3, rfl⟩ := okWide_int Tryz.underlying3 (hval 3 3 v3 rfl rfl);obtain ⟨n4, rfl⟩ := okWide_int Tryz.underlying3 (hval 4 3 v4 rfl rfl);obtain ⟨c5, hc5, hv5⟩ : ∃ c : Explanation, (c.Refutations.length < 1152921504606846976) /\ Rep W q4a (q16 c) v5 := by
  have hk := hval 5 51 v5 rfl rfl;simp only [Value.okWide, Tryz.underlying51] at hk;obtain ⟨cs, rfl, _⟩ := hk;obtain ⟨fuel, hf⟩ := h5;obtain ⟨c, hc, hs⟩ := qdg fuel _ _ _ hf (q3d hS' 5 51 d5 rfl rfl);exact ⟨c, hc, by exact qg4 hs⟩
 refine (qlv hlaw hc1 hc2 hc5 hv0 hv1 hv2 hv5).mono fun e W' ⟨he, hb⟩ => ?_
 subst he;have back : DataW.TrodAll enc Tryz.prog W' 0 (fun b => decide (b < W.heap.size)) true [22, 27, 27, 3, 3, 51] [v0, v1, v2, .int .i64 n3, .int .i64 n4, v5] [d0, d1, d2, d3, d4, d5] (p0 ++ (p1 ++ (p2 ++ (p3 ++ (p4 ++ p5))))) :=
  ⟨p0, _, Below.trod Tryz.laidOut (by kernel_rfl) (of_decide_eq_true (by kernel_rfl)) h0 hb (fun x hx => hlt x (by simp [hx])), ⟨p1, _, Below.trod Tryz.laidOut (by kernel_rfl) (of_decide_eq_true (by kernel_rfl)) h1 hb (fun x hx => hlt x (by simp [hx])), ⟨p2, _, Below.trod Tryz.laidOut (by kernel_rfl) (of_decide_eq_true (by kernel_rfl)) h2 hb (fun x hx => hlt x (by simp [hx])), ⟨p3, _, Below.trod Tryz.laidOut (by kernel_rfl) (of_decide_eq_true (by kernel_rfl)) h3 hb (fun x hx => hlt x (by simp [hx])), ⟨p4, _, Below.trod Tryz.laidOut (by kernel_rfl) (of_decide_eq_true (by kernel_rfl)) h4 hb (fun x hx => hlt x (by simp [hx])), trodAll_mk1 (Below.trod Tryz.laidOut (by kernel_rfl) (of_decide_eq_true (by kernel_rfl)) h5 hb (fun x hx => hlt x (by simp [hx]))), rfl⟩, rfl⟩, rfl⟩, rfl⟩, rfl⟩
 exact ⟨_, rfl, ⟨_, _, _, [], _, [], hW', trodAll_mk1 (shut_bool Tryz.underlying4 _), back, rfl, hb.frame _, fun h => by cases h⟩⟩
theorem qls (hlaw : LawA) : Rows.IntactAnswersSaid :=
 OpenClaim.holds_of_wide 8 Tryz.f8 rfl rfl rfl rfl rfl rfl rfl ⟨rfl, rfl, rfl, rfl, rfl⟩ rfl rfl rfl rfl rfl (by kernel_rfl) Tryz.func8 (by kernel_rfl)
  (of_decide_eq_true (by kernel_rfl)) (by unfold Func.isWrapper; first | (rw [if_pos (by decide +kernel)]; kernel_rfl) | (rw [if_neg (by decide +kernel)]; exact ⟨rfl, rfl⟩))
  (fun os started H enc _ => answers_lifted hlaw os started H enc)
theorem answers_proved : Rows.IntactAnswersSaid := qls (lawA_of (qlh))
end Go.Proofs.YtjfhnffdijlboaaGreat
