/- The row of VotingAnswers, from its answer on the machine: several arguments. -/
import Derived.Test.YthbpagedblodfaaGreatP19SegB
import Derived.SizedLaws
namespace Go.Proofs.YthbpagedblodfaaGreat
open Go Go.Ab Go.ChangeShapes Go.WideShapes Go.ChangeAt Go.WideMaps Go.WideElems Go.RowKit
def LawA : Prop := ∀ (x0 : List Int) (x1 : Voter) (x2 : Message) (x3 : Claim) (x4 : Trust) (x5 : Int), RawV x1 -> RawM x2 -> True -> raw x4 = true ->
 ∃ n h', call env n 7 [.d (ints .i64 x0), .d (q3w x1), .d (q0q x2), .d (q0c x3), .d (q10 x4), .d (.v (.int .i64 x5))] [] = some (.d (.v (.bool true)), h')
theorem lawA_of (h : ∀ (x0 : List Int) (x1 : Voter) (x2 : Message) (x3 : Claim) (x4 : Trust) (x5 : Int), RawV x1 -> RawM x2 -> True -> raw x4 = true -> law19_VotingAnswers x0 x1 x2 x3 x4 x5 = some true) : LawA := by
 intro x0 x1 x2 x3 x4 x5 g1 g2 g3 g4;obtain ⟨m, hm⟩ := qos (h x0 x1 x2 x3 x4 x5 g1 g2 g3 g4);refine ⟨m, [], ?_⟩;rw [show q3w x1 = (packT (S := sig) true (qb1 x1)).toD from sigOk.enc_eq .Voter x1, show q0q x2 = (packT (S := sig) true (q7s x2)).toD from sigOk.enc_eq .Message x2, show q0c x3 = (packT (S := sig) true (qbf x3)).toD from sigOk.enc_eq .Claim x3, show q10 x4 = (packT (S := sig) true (q7o x4)).toD from sigOk.enc_eq .Trust x4];exact hm
theorem qom (hlaw : LawA) {W : World} {v0 v1 v2 v3 v4 : Value} {x0 : List Int} {x1 : Voter} {x2 : Message} {x3 : Claim} {x4 : Trust} {x5 : Int} (g1 : RawV x1) (g2 : RawM x2) (g3 : True) (g4 : raw x4 = true)
  (h0 : Rep W q3u (ints .i64 x0) v0) (h1 : Rep W q3u (q3w x1) v1) (h2 : Rep W q3u (q0q x2) v2) (h3 : Rep W q3u (q0c x3) v3) (h4 : Rep W q3u (q10 x4) v4) :
  Calls Tryz.prog 7 #[v0, v1, v2, v3, v4, .int .i64 x5] W fun e W' => e = .returned (.bool true) /\ Below W.heap.size W W' := by
 obtain ⟨n, h', hcall⟩ := hlaw x0 x1 x2 x3 x4 x5 g1 g2 g3 g4;exact top (E := env) (y9x n) (fun g cs hg => by cases hg) (ds := [ints .i64 x0, q3w x1, q0q x2, q0c x3, q10 x4, .v (.int .i64 x5)]) hcall rfl (fun i d hd => by
  match i, hd with
  | 0, hd => simp at hd; subst hd; exact h0
  | 1, hd => simp at hd; subst hd; exact h1
  | 2, hd => simp at hd; subst hd; exact h2
  | 3, hd => simp at hd; subst hd; exact h3
  | 4, hd => simp at hd; subst hd; exact h4
  | 5, hd => simp at hd; subst hd; exact .v _ rfl
  | n + 6, hd => simp at hd)
theorem qi4 (r : Trust) : D.agg (q10 r).cells = q10 r := by cases r; rfl
set_option maxRecDepth 100000 in
theorem answers_lifted (hlaw : LawA) (os : Os) (started : os.Started) (H : Type) (enc : TypeId × Value -> H) :
  ReturnsInHanded {} Tryz.checked os 7 .any (Rows.votingAnswersSpec.pre6 enc Tryz.prog Tryz.f7 [] false) (Rows.votingAnswersSpec.post enc Tryz.prog Tryz.f7 false true false false) := by
 refine returnsInHanded_of_change_sized (C := Tryz.checked) Tryz.own started (by kernel_rfl) Tryz.func7
  (ChangeSpec.witness6 (enc := enc) (C := Tryz.checked) false ⟨#[], #[.slice none 0 0, .agg #[.int .i64 0, .int .i64 0, .int .i64 0, .slice none 0 0, .slice none 0 0, .slice none 0 0, .slice none 0 0, .slice none 0 0, .slice none 0 0], .agg #[.int .i64 0, .int .i64 0, .int .i64 0, .slice none 0 0, .slice none 0 0, .slice none 0 0, .slice none 0 0], .agg #[.int .i64 0, .int .i64 0], .agg #[.int .i64 0, .slice none 0 0, .slice none 0 0], .int .i64 0], []⟩ 8 (by kernel_rfl) (by kernel_rfl) (by kernel_rfl) (by kernel_rfl)) ?_
 intro W base args ds gs before hval0 hW _ hS _;have hval : ∀ (j : Nat) t v, Tryz.f7.params[j]? = some t -> args[j]? = some v -> Value.okWide Tryz.prog W .any base t v := hval0;have hS' : (DataW.weightsEach Tryz.prog (Tryz.f7.params.toList ++ []) (ds ++ gs)).all (· <= reachBytes) = true := hS;have hW' := hW;obtain ⟨p, q, hA0, hV, rfl, hfz, hnd⟩ := hW;have hA : DataW.TrodAll enc Tryz.prog W 0 (fun _ => true) true Tryz.f7.params.toList args.toList ds p := hA0;rw [Tryz.params7] at hA hval hS';obtain ⟨v0, vs0, d0, ds0, p0, q0, e0, rfl, rfl, h0, hA1⟩ := trodAll_cons hA;obtain ⟨v1, vs1, d1, ds1, p1, q1, rfl, rfl, rfl, h1, hA2⟩ := trodAll_cons hA1;obtain ⟨v2, vs2, d2, ds2, p2, q2, rfl, rfl, rfl, h2, hA3⟩ := trodAll_cons hA2;obtain ⟨v3, vs3, d3, ds3, p3, q3, rfl, rfl, rfl, h3, hA4⟩ := trodAll_cons hA3
 obtain ⟨v4, vs4, d4, ds4, p4, q4, rfl, rfl, rfl, h4, hA5⟩ := trodAll_cons hA4;obtain ⟨v5, vs5, d5, ds5, p5, q5, rfl, rfl, rfl, h5, hA6⟩ := trodAll_cons hA5;obtain ⟨rfl, rfl, rfl⟩ := trodAll_nil hA6;have hargs : args = #[v0, v1, v2, v3, v4, v5] := by cases args; simp at e0; simp [e0]
 subst hargs;obtain ⟨rfl, rfl⟩ := trodVars_none hV;clear hA0 hval0 hA hA1 hA2 hA3 hA4 hA5 hA6;simp only [List.append_nil] at hW' hS';have hlt : ∀ x ∈ p0 ++ (p1 ++ (p2 ++ (p3 ++ (p4 ++ p5)))), x.block < W.heap.size := fun x hx => by
  have := hW'.lt x (by simpa using hx);simpa using this
 obtain ⟨zs0, hv0⟩ : ∃ zs : List Int, Rep W q3u (ints .i64 zs) v0 := by
  obtain ⟨a0, len, cap, rfl⟩ := okWide_slice Tryz.underlying22 (hval 0 22 v0 rfl rfl);obtain ⟨fuel, hf⟩ := h0;rcases open_ints Tryz.underlying22 Tryz.underlying3 (by kernel_rfl) hf with ⟨e, _⟩ | ⟨a, len', cap', zs, e, _, hlc, _, hzl, _, hcell, hw⟩
  .have e' : Value.slice a0 len cap = .slice Option.none 0 0 := by simpa [Value.cells] using e
   rw [e'];exact ⟨[], qny _ _ _⟩
  .have e' : Value.slice a0 len cap = .slice (some a) len' cap' := by simpa [Value.cells] using e
   rw [e'];exact ⟨zs.take len', qzw (by rw [hzl]; split <;> omega) hlc hcell⟩
 obtain ⟨c1, hc1, hv1⟩ : ∃ c : Voter, RawV c /\ Rep W q3u (q3w c) v1 := by
  have hk := hval 1 31 v1 rfl rfl;simp only [Value.okWide, Tryz.underlying31] at hk;obtain ⟨cs, rfl, _⟩ := hk;obtain ⟨fuel, hf⟩ := h1;obtain ⟨c, hc, hs⟩ := qqr fuel _ _ _ hf (q2j hS' 1 31 d1 rfl rfl);exact ⟨c, hc, by exact qce hs⟩
 obtain ⟨c2, hc2, hv2⟩ : ∃ c : Message, RawM c /\ Rep W q3u (q0q c) v2 := by
  have hk := hval 2 40 v2 rfl rfl;simp only [Value.okWide, Tryz.underlying40] at hk;obtain ⟨cs, rfl, _⟩ := hk;obtain ⟨fuel, hf⟩ := h2;obtain ⟨c, hc, hs⟩ := qde fuel _ _ _ hf (q2j hS' 2 40 d2 rfl rfl);exact ⟨c, hc, by exact qce hs⟩
 obtain ⟨c3, hc3, hv3⟩ : ∃ c : Claim, True /\ Rep W q3u (q0c c) v3 := by
  have hk := hval 3 38 v3 rfl rfl;simp only [Value.okWide, Tryz.underlying38] at hk;obtain ⟨cs, rfl, _⟩ := hk;obtain ⟨fuel, hf⟩ := h3;obtain ⟨c, hc, hs⟩ := q4l fuel _ _ _ hf (q2j hS' 3 38 d3 rfl rfl);exact ⟨c, hc, by exact qce hs⟩
 obtain ⟨c4, hc4, hv4⟩ : ∃ c : Trust, raw c = true /\ Rep W q3u (q10 c) v4 := by
  have hk := hval 4 27 v4 rfl rfl;simp only [Value.okWide, Tryz.underlying27] at hk;obtain ⟨cs, rfl, _⟩ := hk;obtain ⟨fuel, hf⟩ := h4;obtain ⟨c, hc, hs⟩ := qbb fuel _ _ _ hf (q2j hS' 4 27 d4 rfl rfl);exact ⟨c, hc, by rw [<- qi4]; exact qce hs⟩
 obtain ⟨n5, rfl⟩ := okWide_int Tryz.underlying3 (hval 5 3 v5 rfl rfl);refine (qom hlaw hc1 hc2 hc3 hc4 hv0 hv1 hv2 hv3 hv4).mono fun e W' ⟨he, hb⟩ => ?_
 subst he;have back : DataW.TrodAll enc Tryz.prog W' 0 (fun b => decide (b < W.heap.size)) true [22, 31, 40, 38, 27, 3] [v0, v1, v2, v3, v4, .int .i64 n5] [d0, d1, d2, d3, d4, d5] (p0 ++ (p1 ++ (p2 ++ (p3 ++ (p4 ++ p5))))) :=
  ⟨p0, _, Below.trod Tryz.laidOut (by kernel_rfl) (of_decide_eq_true (by kernel_rfl)) h0 hb (fun x hx => hlt x (by simp [hx])), ⟨p1, _, Below.trod Tryz.laidOut (by kernel_rfl) (of_decide_eq_true (by kernel_rfl)) h1 hb (fun x hx => hlt x (by simp [hx])), ⟨p2, _, Below.trod Tryz.laidOut (by kernel_rfl) (of_decide_eq_true (by kernel_rfl)) h2 hb (fun x hx => hlt x (by simp [hx])), ⟨p3, _, Below.trod Tryz.laidOut (by kernel_rfl) (of_decide_eq_true (by kernel_rfl)) h3 hb (fun x hx => hlt x (by simp [hx])), ⟨p4, _, Below.trod Tryz.laidOut (by kernel_rfl) (of_decide_eq_true (by kernel_rfl)) h4 hb (fun x hx => hlt x (by simp [hx])), trodAll_mk1 (Below.trod Tryz.laidOut (by kernel_rfl) (of_decide_eq_true (by kernel_rfl)) h5 hb (fun x hx => hlt x (by simp [hx]))), rfl⟩, rfl⟩, rfl⟩, rfl⟩, rfl⟩
 exact ⟨_, rfl, ⟨_, _, _, [], _, [], hW', trodAll_mk1 (shut_bool Tryz.underlying4 _), back, rfl, hb.frame _, fun h => by cases h⟩⟩
theorem qn4 (hlaw : LawA) : Rows.VotingAnswersSaid :=
 OpenClaim.holds_of_wide 7 Tryz.f7 rfl rfl rfl rfl rfl rfl rfl ⟨rfl, rfl, rfl, rfl, rfl⟩ rfl rfl rfl rfl rfl (by kernel_rfl) Tryz.func7 (by kernel_rfl)
  (of_decide_eq_true (by kernel_rfl)) (by unfold Func.isWrapper; first | (rw [if_pos (by decide +kernel)]; kernel_rfl) | (rw [if_neg (by decide +kernel)]; exact ⟨rfl, rfl⟩))
  (fun os started H enc _ => answers_lifted hlaw os started H enc)
theorem answers_proved : Rows.VotingAnswersSaid := qn4 (lawA_of (fun t v m x y n hv hm _ hy => qxp t v m x y n hv hm hy))
end Go.Proofs.YthbpagedblodfaaGreat
