/- The row of DangerUniform, from its answer on the machine: several arguments. -/
import Derived.Test.YtfjcndlhpfbcgaaP16RowBase
import Derived.Test.YtfjcndlhpfbcgaaP16Unif
import Derived.SizedLaws
namespace Go.Proofs.Ytfjcndlhpfbcgaa
open Go Go.Ab Go.ChangeShapes Go.WideShapes Go.ChangeAt Go.WideMaps Go.WideElems Go.RowKit
def LawA : Prop := ∀ (x0 : Int) (x1 : Int), (0 ≤ x0 ∧ x0 < 256) → (0 ≤ x1 ∧ x1 < 256) → 
  ∃ n h', call env n 3 [.d (.v (.int .u8 x0)), .d (.v (.int .u8 x1))] [] = some (.d (.v (.bool true)), h')
theorem lawA_of (h : ∀ (x0 : Int) (x1 : Int), (0 ≤ x0 ∧ x0 < 256) → (0 ≤ x1 ∧ x1 < 256) → law16_DangerUniform x0 x1 = some true) : LawA := by
  intro x0 x1 g0 g1
  obtain ⟨m, hm⟩ := callC_sem (h x0 x1 g0 g1)
  refine ⟨m, [], ?_⟩
  exact hm
theorem walk_uniform (hlaw : LawA) {W : World} {x0 : Int} {x1 : Int} (g0 : (0 ≤ x0 ∧ x0 < 256)) (g1 : (0 ≤ x1 ∧ x1 < 256))
     :
    Calls Try.prog 3 #[.int .u8 x0, .int .u8 x1] W fun e W' => e = .returned (.bool true) ∧ Below W.heap.size W W' := by
  obtain ⟨n, h', hcall⟩ := hlaw x0 x1 g0 g1
  exact top (E := env) (callOk n) (fun g cs hg => by cases hg) (ds := [.v (.int .u8 x0), .v (.int .u8 x1)]) hcall rfl (fun i d hd => by
    match i, hd with
    | 0, hd => simp at hd; subst hd; exact .v _ rfl
    | 1, hd => simp at hd; subst hd; exact .v _ rfl
    | n + 2, hd => simp at hd)
set_option maxRecDepth 100000 in
theorem uniform_lifted (hlaw : LawA) (os : Os) (started : os.Started) (H : Type) (enc : TypeId × Value → H) :
    ReturnsInHanded {} Try.checked os 3 .any (Rows.dangerUniformSpec.pre6 enc Try.prog Try.f3 [] false) (Rows.dangerUniformSpec.post enc Try.prog Try.f3 false true false false) := by
  refine returnsInHanded_of_change_sized (C := Try.checked) Try.own started (by kernel_rfl) Try.func3
    (ChangeSpec.witness6 (enc := enc) (C := Try.checked) false ⟨#[], #[.int .u8 0, .int .u8 0], []⟩ 8 (by kernel_rfl) (by kernel_rfl) (by kernel_rfl) (by kernel_rfl)) ?_
  intro W base args ds gs before hval0 hW _ hS _
  have hval : ∀ (j : Nat) t v, Try.f3.params[j]? = some t → args[j]? = some v → Value.okWide Try.prog W .any base t v := hval0
  have hS' : (DataW.weightsEach Try.prog (Try.f3.params.toList ++ []) (ds ++ gs)).all (· ≤ reachBytes) = true := hS
  have hW' := hW
  obtain ⟨p, q, hA0, hV, rfl, hfz, hnd⟩ := hW
  have hA : DataW.TrodAll enc Try.prog W 0 (fun _ => true) true Try.f3.params.toList args.toList ds p := hA0
  rw [Try.params3] at hA hval hS'
  obtain ⟨v0, vs0, d0, ds0, p0, q0, e0, rfl, rfl, h0, hA1⟩ := trodAll_cons hA
  obtain ⟨v1, vs1, d1, ds1, p1, q1, rfl, rfl, rfl, h1, hA2⟩ := trodAll_cons hA1
  obtain ⟨rfl, rfl, rfl⟩ := trodAll_nil hA2
  have hargs : args = #[v0, v1] := by cases args; simp at e0; simp [e0]
  subst hargs
  obtain ⟨rfl, rfl⟩ := trodVars_none hV
  clear hA0 hval0 hA hA1 hA2
  simp only [List.append_nil] at hW' hS'
  have hlt : ∀ x ∈ p0 ++ p1, x.block < W.heap.size := fun x hx => by
    have := hW'.lt x (by simpa using hx)
    simpa using this
  obtain ⟨n0, rfl⟩ := okWide_int Try.underlying5 (hval 0 5 v0 rfl rfl)
  have hc0 : 0 ≤ n0 ∧ n0 < 256 := by
    have hk := hval 0 5 _ rfl rfl
    simp [Value.okWide, Try.underlying5, Cell.okWide, Cell.ok, IntKind.has, IntKind.min, IntKind.max, IntKind.bits, IntKind.signed] at hk
    omega
  obtain ⟨n1, rfl⟩ := okWide_int Try.underlying5 (hval 1 5 v1 rfl rfl)
  have hc1 : 0 ≤ n1 ∧ n1 < 256 := by
    have hk := hval 1 5 _ rfl rfl
    simp [Value.okWide, Try.underlying5, Cell.okWide, Cell.ok, IntKind.has, IntKind.min, IntKind.max, IntKind.bits, IntKind.signed] at hk
    omega
  refine (walk_uniform hlaw hc0 hc1 ).mono fun e W' ⟨he, hb⟩ => ?_
  subst he
  have back : DataW.TrodAll enc Try.prog W' 0 (fun b => decide (b < W.heap.size)) true [5, 5] [.int .u8 n0, .int .u8 n1] [d0, d1] (p0 ++ p1) :=
    ⟨p0, _, Below.trod Try.laidOut (by kernel_rfl) (of_decide_eq_true (by kernel_rfl)) h0 hb (fun x hx => hlt x (by simp [hx])), trodAll_mk1 (Below.trod Try.laidOut (by kernel_rfl) (of_decide_eq_true (by kernel_rfl)) h1 hb (fun x hx => hlt x (by simp [hx]))), rfl⟩
  exact ⟨_, rfl, ⟨_, _, _, [], _, [], hW', trodAll_mk1 (shut_bool Try.underlying4 _), back, rfl, hb.frame _, fun h => by cases h⟩⟩
theorem uniform_said (hlaw : LawA) : Rows.DangerUniformSaid :=
  OpenClaim.holds_of_wide 3 Try.f3 rfl rfl rfl rfl rfl rfl rfl ⟨rfl, rfl, rfl, rfl, rfl⟩ rfl rfl rfl rfl rfl (by kernel_rfl) Try.func3 (by kernel_rfl)
    (of_decide_eq_true (by kernel_rfl)) (by unfold Func.isWrapper; first | (rw [if_pos (by decide +kernel)]; kernel_rfl) | (rw [if_neg (by decide +kernel)]; exact ⟨rfl, rfl⟩))
    (fun os started H enc _ => uniform_lifted hlaw os started H enc)
theorem uniform_proved : Rows.DangerUniformSaid := uniform_said (lawA_of uniform_law)
end Go.Proofs.Ytfjcndlhpfbcgaa
