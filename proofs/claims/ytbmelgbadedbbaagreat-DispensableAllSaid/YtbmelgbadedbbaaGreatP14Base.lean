/- From the typed machine to the machine. -/
import Derived.Test.YtbmelgbadedbbaaGreatP14Fchk
import Derived.Test.YtbmelgbadedbbaaGreatP14Seekl
namespace Go.Proofs.YtbmelgbadedbbaaGreat
open Go Go.Ab
theorem y2g : qin env (q8x an) := by
 intro h hok;have hlt : h < lastF + 1 := by
  have : okF h = true := hok;simp only [okF, Bool.and_eq_true, decide_eq_true_eq] at this;omega
 have h1 := List.all_eq_true.1 qjn h (List.mem_range.2 hlt);have hok' : okF h = true := hok;rw [hok', Bool.not_true, Bool.false_or] at h1;unfold qvg at h1;cases hf : Tryz.prog.funcs[h]? with
 | none => simp [hf] at h1
 | some fn =>
  cases hb : fn.body with
  | none => simp [hf, hb] at h1
  | some c =>
   simp only [hf, hb, Bool.and_eq_true, decide_eq_true_eq] at h1;exact ⟨fn, c, hf, hb, h1.1, fun _ => h1.2⟩
theorem y0j (n : Nat) : q6i env n := sound (E := env) mixed y2g y2p n
def Law (f : Nat) : Prop := ∀ zs : List Int, (∀ z ∈ zs, (Lit.int .i64 z).wf = true) → ∃ n h', call env n f [.d (ints .i64 zs)] [] = some (.d (.v (.bool true)), h')
theorem law_of {f : Nat} (h : ∀ t : List Int, callC tn f [.d (.lf (.l (c := TC.i64) t))] [] ⟨[.lf .b], []⟩ = some true) : Law f := by
 intro zs _;obtain ⟨m, hm⟩ := q75 (h zs);exact ⟨m, [], hm⟩
end Go.Proofs.YtbmelgbadedbbaaGreat
