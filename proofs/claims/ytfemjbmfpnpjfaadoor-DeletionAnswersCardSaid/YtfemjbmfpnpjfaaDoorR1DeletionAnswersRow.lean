/- The row of DeletionAnswers, from its answer on the machine: five arguments, two of nested data. -/
import Derived.Test.YtfemjbmfpnpjfaaDoorR1RowBase
import Derived.Test.YtfemjbmfpnpjfaaDoorR1Open
namespace Go.Proofs.YtfemjbmfpnpjfaaDoor
open Go Go.Ab Go.ChangeShapes Go.WideShapes Go.ChangeAt Go.WideMaps Go.WideElems Go.RowKit

def LawA : Prop := ∀ (t : List Int) (r : Trust) (c : Config) (node x : Int), raw r = true → (∀ m ∈ c.Members, raw m.Trust = true) →
  ∃ n h', call env n 5 [.d (ints .i64 t), .d (enc_Trust r), .d (enc_Config c), .d (.v (.int .i64 node)), .d (.v (.int .i64 x))] [] = some (.d (.v (.bool true)), h')
theorem lawA_of (h : ∀ (t : List Int) (r : Trust) (c : Config) (node x : Int), raw r = true → (∀ m ∈ c.Members, raw m.Trust = true) → law13_DeletionAnswers t r c node x = some true) : LawA := by
  intro t r c node x hr hc
  obtain ⟨m, hm⟩ := callC_sem (h t r c node x hr hc)
  refine ⟨m, [], ?_⟩
  rw [show enc_Trust r = (packT (S := sig) true (cells_Trust r)).toD from sigOk.enc_eq .Trust r, show enc_Config c = (packT (S := sig) true (cells_Config c)).toD from sigOk.enc_eq .Config c]
  exact hm

theorem walk_answers (hlaw : LawA) {W : World} {v0 v1 v2 : Value} {t : List Int} {r : Trust} {c : Config} {node x : Int} (hr : raw r = true) (hc : ∀ m ∈ c.Members, raw m.Trust = true)
    (h0 : Rep W anyMem (ints .i64 t) v0) (h1 : Rep W anyMem (enc_Trust r) v1) (h2 : Rep W anyMem (enc_Config c) v2) :
    Calls Tryd.prog 5 #[v0, v1, v2, .int .i64 node, .int .i64 x] W fun e W' => e = .returned (.bool true) ∧ Below W.heap.size W W' := by
  obtain ⟨n, h', hcall⟩ := hlaw t r c node x hr hc
  exact top (E := env) (callOk n) (fun g cs hg => by cases hg) (ds := [ints .i64 t, enc_Trust r, enc_Config c, .v (.int .i64 node), .v (.int .i64 x)]) hcall rfl (fun i d hd => by
    match i, hd with
    | 0, hd => simp at hd; subst hd; exact h0
    | 1, hd => simp at hd; subst hd; exact h1
    | 2, hd => simp at hd; subst hd; exact h2
    | 3, hd => simp at hd; subst hd; exact .v _ rfl
    | 4, hd => simp at hd; subst hd; exact .v _ rfl
    | n + 5, hd => simp at hd)

theorem answers_door (os : Os) (args : Array Value) : laidMetH Tryd.prog Rows.deletionAnswersRow.laid ((World.doorLaid Tryd.prog 4000 os).forCall (fun _ _ => 0) ⟨#[], args, []⟩).memory :=
  laidMetH_of_parts3 (fuel := 8) (laidMet_of_run' 8 (by kernel_rfl) (by kernel_rfl)) (by kernel_rfl) (by kernel_rfl)

theorem agg_cells_trust (r : Trust) : D.agg (enc_Trust r).cells = enc_Trust r := by cases r; rfl

set_option maxRecDepth 100000 in
theorem answers_lifted (hlaw : LawA) (os : Os) (started : os.Started) (H : Type) (enc : TypeId × Value → H) :
    ReturnsInHanded {} Tryd.checked os 5 .any (fun w args => (Rows.deletionAnswersSpec.pre enc Tryd.prog Tryd.f5 [] false w args ∧ laidMetH Tryd.prog Rows.deletionAnswersRow.laid w) ∧ sizedMet enc Tryd.prog Tryd.f5 (OpenSpec.ofChange Rows.deletionAnswersSpec) false w args)
      (Rows.deletionAnswersSpec.post enc Tryd.prog Tryd.f5 false true false false) := by
  refine returnsInHanded_of_change_and (C := Tryd.checked) (X := fun w _ => laidMetH Tryd.prog Rows.deletionAnswersRow.laid w) (fun _ _ _ hh h => h.of_heap hh) Tryd.own started (by kernel_rfl) Tryd.func5
    (ChangeSpec.witness_shaped (enc := enc) (C := Tryd.checked) (os := os) (X := fun w _ => laidMetH Tryd.prog Rows.deletionAnswersRow.laid w) false (World.doorLaid Tryd.prog 4000 os) #[.slice none 0 0, .agg #[.int .i64 0, .slice none 0 0, .slice none 0 0], .agg #[.slice none 0 0], .int .i64 0, .int .i64 0] 8 rfl (World.shaped_of_RefB (by kernel_rfl) (by kernel_rfl)) (by kernel_rfl) (by kernel_rfl) (by kernel_rfl) (answers_door os _)) ?_
  intro W base args ds gs before hval0 hW _ hS hL _
  have hval : ∀ (j : Nat) t v, Tryd.f5.params[j]? = some t → args[j]? = some v → Value.okWide Tryd.prog W .any base t v := hval0
  have hS' : (DataW.weightsEach Tryd.prog (Tryd.f5.params.toList ++ []) (ds ++ gs)).all (· ≤ reachBytes) = true := hS
  have hW' := hW
  obtain ⟨p, q, hA0, hV, rfl, hfz, hnd⟩ := hW
  have hA : DataW.TrodAll enc Tryd.prog W 0 (fun _ => true) true Tryd.f5.params.toList args.toList ds p := hA0
  rw [Tryd.params5] at hA hval hS'
  obtain ⟨v0, vs0, d0, ds0, p0, q0, e0, rfl, rfl, h0, hA1⟩ := trodAll_cons hA
  obtain ⟨v1, vs1, d1, ds1, p1, q1, rfl, rfl, rfl, h1, hA2⟩ := trodAll_cons hA1
  obtain ⟨v2, vs2, d2, ds2, p2, q2, rfl, rfl, rfl, h2, hA3⟩ := trodAll_cons hA2
  obtain ⟨v3, vs3, d3, ds3, p3, q3, rfl, rfl, rfl, h3, hA4⟩ := trodAll_cons hA3
  obtain ⟨v4, vs4, d4, ds4, p4, q4, rfl, rfl, rfl, h4, hA5⟩ := trodAll_cons hA4
  obtain ⟨rfl, rfl, rfl⟩ := trodAll_nil hA5
  have hargs : args = #[v0, v1, v2, v3, v4] := by cases args; simp at e0; simp [e0]
  subst hargs
  obtain ⟨rfl, rfl⟩ := trodVars_none hV
  clear hA0 hval0 hA hA1 hA2 hA3 hA4 hA5
  simp only [List.append_nil] at hW' hS'
  have hlt : ∀ x ∈ p0 ++ (p1 ++ (p2 ++ (p3 ++ p4))), x.block < W.heap.size := fun x hx => by
    have := hW'.lt x (by simpa using hx)
    simpa using this
  obtain ⟨zs, hv0⟩ : ∃ zs : List Int, Rep W anyMem (ints .i64 zs) v0 := by
    obtain ⟨a0, len, cap, rfl⟩ := okWide_slice Tryd.underlying22 (hval 0 22 v0 rfl rfl)
    obtain ⟨fuel, hf⟩ := h0
    rcases open_ints Tryd.underlying22 Tryd.underlying3 (by kernel_rfl) hf with ⟨e, _⟩ | ⟨a, len', cap', zs, e, _, hlc, _, hzl, _, hcell, hw⟩
    · have e' : Value.slice a0 len cap = .slice Option.none 0 0 := by simpa [Value.cells] using e
      rw [e']
      exact ⟨[], rep_ints_nil _ _ _⟩
    · have e' : Value.slice a0 len cap = .slice (some a) len' cap' := by simpa [Value.cells] using e
      rw [e']
      exact ⟨zs.take len', rep_ints (by rw [hzl]; split <;> omega) hlc hcell⟩
  obtain ⟨r, hr, hv1⟩ : ∃ r : Trust, raw r = true ∧ Rep W anyMem (enc_Trust r) v1 := by
    have hk := hval 1 28 v1 rfl rfl
    simp only [Value.okWide, Tryd.underlying28] at hk
    obtain ⟨cs, rfl, _⟩ := hk
    obtain ⟨fuel, hf⟩ := h1
    obtain ⟨r, hr, hs⟩ := opens_trust fuel _ _ _ hf (weightsEach_get hS' 1 28 d1 rfl rfl)
    exact ⟨r, hr, by rw [← agg_cells_trust]; exact shows_agg hs⟩
  obtain ⟨c, hc, hv2⟩ : ∃ c : Config, (∀ m ∈ c.Members, raw m.Trust = true) ∧ Rep W anyMem (enc_Config c) v2 := by
    have hk := hval 2 40 v2 rfl rfl
    simp only [Value.okWide, Tryd.underlying40] at hk
    obtain ⟨cs, rfl, _⟩ := hk
    obtain ⟨fuel, hf⟩ := h2
    obtain ⟨c, hc, hs⟩ := opens_config fuel _ _ _ hf (weightsEach_get hS' 2 40 d2 rfl rfl)
    exact ⟨c, hc, shows_agg hs⟩
  obtain ⟨n3, rfl⟩ := okWide_int Tryd.underlying3 (hval 3 3 v3 rfl rfl)
  obtain ⟨n4, rfl⟩ := okWide_int Tryd.underlying3 (hval 4 3 v4 rfl rfl)
  refine (walk_answers hlaw hr hc hv0 hv1 hv2).mono fun e W' ⟨he, hb⟩ => ?_
  subst he
  have back : DataW.TrodAll enc Tryd.prog W' 0 (fun b => decide (b < W.heap.size)) true [22, 28, 40, 3, 3] [v0, v1, v2, .int .i64 n3, .int .i64 n4] [d0, d1, d2, d3, d4] (p0 ++ (p1 ++ (p2 ++ (p3 ++ p4)))) :=
    ⟨p0, _, Below.trod Tryd.laidOut (by kernel_rfl) (of_decide_eq_true (by kernel_rfl)) h0 hb (fun x hx => hlt x (by simp [hx])),
      ⟨p1, _, Below.trod Tryd.laidOut (by kernel_rfl) (of_decide_eq_true (by kernel_rfl)) h1 hb (fun x hx => hlt x (by simp [hx])),
        ⟨p2, _, Below.trod Tryd.laidOut (by kernel_rfl) (of_decide_eq_true (by kernel_rfl)) h2 hb (fun x hx => hlt x (by simp [hx])),
          ⟨p3, _, Below.trod Tryd.laidOut (by kernel_rfl) (of_decide_eq_true (by kernel_rfl)) h3 hb (fun x hx => hlt x (by simp [hx])),
            trodAll_mk1 (Below.trod Tryd.laidOut (by kernel_rfl) (of_decide_eq_true (by kernel_rfl)) h4 hb (fun x hx => hlt x (by simp [hx]))), rfl⟩, rfl⟩, rfl⟩, rfl⟩
  exact ⟨_, rfl, ⟨_, _, _, [], _, [], hW', trodAll_mk1 (shut_bool Tryd.underlying4 _), back, rfl, hb.frame _, fun h => by cases h⟩⟩

theorem answers_said (hlaw : LawA) : Rows.DeletionAnswersSaid :=
  OpenClaim.holds_of_wide 5 Tryd.f5 rfl rfl rfl rfl rfl rfl rfl ⟨rfl, rfl, rfl, rfl, rfl⟩ rfl rfl rfl rfl rfl (by kernel_rfl) Tryd.func5 (by kernel_rfl)
    (of_decide_eq_true (by kernel_rfl)) (by unfold Func.isWrapper; first | (rw [if_pos (by decide +kernel)]; kernel_rfl) | (rw [if_neg (by decide +kernel)]; exact ⟨rfl, rfl⟩))
    (fun os started H enc _ => answers_lifted hlaw os started H enc)
end Go.Proofs.YtfemjbmfpnpjfaaDoor
