/- The seat's functions pass the check; from the typed machine to the machine. -/
import Derived.Test.YtfjcndlhpfbcgaaGreatZ16Env
import Derived.Test.YtfjcndlhpfbcgaaGreatZ16Df
namespace Go.Proofs.YtfjcndlhpfbcgaaGreat
open Go Go.Ab
def que (P : Program) (an : An) (h : Nat) : Bool :=
  match P.funcs[h]? with
  | some fn => match fn.body with
    | some c => decide (fn.name ≠ "runtime.NumGoroutine") && q4t (q8i an) h fn.ntmps c
    | none => false
  | none => false
set_option maxRecDepth 100000 in
theorem qiy : ((List.range (lastF + 1)).all fun h => !okF h || que Tryz.prog an h) = true := by kernel_rfl
theorem y0l : qi7 env (q8i an) := by
  intro h hok
  have hlt : h < lastF + 1 := by
    have : okF h = true := hok
    simp only [okF, Bool.and_eq_true, decide_eq_true_eq] at this
    omega
  have h1 := List.all_eq_true.1 qiy h (List.mem_range.2 hlt)
  have hok' : okF h = true := hok
  rw [hok', Bool.not_true, Bool.false_or] at h1
  unfold que at h1
  cases hf : Tryz.prog.funcs[h]? with
  | none => simp [hf] at h1
  | some fn =>
    cases hb : fn.body with
    | none => simp [hf, hb] at h1
    | some c =>
      simp only [hf, hb, Bool.and_eq_true, decide_eq_true_eq] at h1
      exact ⟨fn, c, hf, hb, h1.1, h1.2⟩
theorem mixed : Tryz.prog.follows .mixedOrders = true := by kernel_rfl
theorem qyv (n : Nat) : qcb env n := sound (E := env) mixed y0l n
def Law (f : Nat) : Prop := ∀ zs : List Int, (∀ z ∈ zs, (Lit.int .i64 z).wf = true) → ∃ n h', call env n f [.d (ints .i64 zs)] [] = some (.d (.v (.bool true)), h')
theorem law_of {f : Nat} (h : ∀ t : List Int, callC tn f [.d (.lf (.l (c := TC.i64) t))] [] ⟨[.lf .b], []⟩ = some true) : Law f := by
  intro zs _
  obtain ⟨m, hm⟩ := qf8 (h zs)
  exact ⟨m, [], hm⟩
end Go.Proofs.YtfjcndlhpfbcgaaGreat
