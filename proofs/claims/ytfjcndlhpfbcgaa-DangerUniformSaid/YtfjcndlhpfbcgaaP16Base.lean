/- The seat's functions pass the check; from the typed machine to the machine. -/
import Derived.Test.YtfjcndlhpfbcgaaP16Env
import Derived.Test.YtfjcndlhpfbcgaaP16Df
namespace Go.Proofs.Ytfjcndlhpfbcgaa
open Go Go.Ab
def funcOkB (P : Program) (an : An) (h : Nat) : Bool :=
  match P.funcs[h]? with
  | some fn => match fn.body with
    | some c => decide (fn.name ≠ "runtime.NumGoroutine") && codeOk (drawCheck an) h fn.ntmps c
    | none => false
  | none => false
set_option maxRecDepth 100000 in
theorem funcs_checked : ((List.range (lastF + 1)).all fun h => !okF h || funcOkB Try.prog an h) = true := by kernel_rfl
theorem funcsOk : FuncsOk env (drawCheck an) := by
  intro h hok
  have hlt : h < lastF + 1 := by
    have : okF h = true := hok
    simp only [okF, Bool.and_eq_true, decide_eq_true_eq] at this
    omega
  have h1 := List.all_eq_true.1 funcs_checked h (List.mem_range.2 hlt)
  have hok' : okF h = true := hok
  rw [hok', Bool.not_true, Bool.false_or] at h1
  unfold funcOkB at h1
  cases hf : Try.prog.funcs[h]? with
  | none => simp [hf] at h1
  | some fn =>
    cases hb : fn.body with
    | none => simp [hf, hb] at h1
    | some c =>
      simp only [hf, hb, Bool.and_eq_true, decide_eq_true_eq] at h1
      exact ⟨fn, c, hf, hb, h1.1, h1.2⟩
theorem mixed : Try.prog.follows .mixedOrders = true := by kernel_rfl
theorem callOk (n : Nat) : CallOk env n := sound (E := env) mixed funcsOk n
def Law (f : Nat) : Prop := ∀ zs : List Int, (∀ z ∈ zs, (Lit.int .i64 z).wf = true) → ∃ n h', call env n f [.d (ints .i64 zs)] [] = some (.d (.v (.bool true)), h')
end Go.Proofs.Ytfjcndlhpfbcgaa
