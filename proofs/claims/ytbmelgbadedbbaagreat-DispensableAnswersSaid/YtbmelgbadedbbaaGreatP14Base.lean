/- From the typed machine to the machine. -/
import Derived.Test.YtbmelgbadedbbaaGreatP14Fchk
import Derived.Test.YtbmelgbadedbbaaGreatP14Seekl
namespace Go.Proofs.YtbmelgbadedbbaaGreat
open Go Go.Ab
theorem y2e : qiu env (q8e an) := by
 intro h hok;have hlt : h < lastF + 1 := by
  have : okF h = true := hok;simp only [okF, Bool.and_eq_true, decide_eq_true_eq] at this;omega
 have h1 := List.all_eq_true.1 qjt h (List.mem_range.2 hlt);have hok' : okF h = true := hok;rw [hok', Bool.not_true, Bool.false_or] at h1;unfold qvc at h1;cases hf : Tryz.prog.funcs[h]? with
 | none => simp [hf] at h1
 | some fn =>
  cases hb : fn.body with
  | none => simp [hf, hb] at h1
  | some c =>
   simp only [hf, hb, Bool.and_eq_true, decide_eq_true_eq] at h1;exact ⟨fn, c, hf, hb, h1.1, fun _ => h1.2⟩
theorem y5e (n : Nat) : q6k env n := sound (E := env) mixed y2e y32 n
def Law (f : Nat) : Prop := ∀ zs : List Int, (∀ z ∈ zs, (Lit.int .i64 z).wf = true) → ∃ n h', call env n f [.d (ints .i64 zs)] [] = some (.d (.v (.bool true)), h')
end Go.Proofs.YtbmelgbadedbbaaGreat
