/- The seat's functions pass the check. -/
import Derived.Test.YtbmelgbadedbbaaGreatP14Env
import Derived.Test.YtbmelgbadedbbaaGreatP14Df
namespace Go.Proofs.YtbmelgbadedbbaaGreat
open Go Go.Ab
def qvc (P : Program) (an : An) (h : Nat) : Bool :=
 match P.funcs[h]? with
 | some fn => match fn.body with
  | some c => decide (fn.name ≠ "runtime.NumGoroutine") && q4w (q8e an) h fn.ntmps c
  | none => false
 | none => false
set_option maxRecDepth 100000 in
theorem qjt : ((List.range (lastF + 1)).all fun h => !okF h || qvc Tryz.prog an h) = true := by kernel_rfl
theorem mixed : Tryz.prog.follows .mixedOrders = true := by kernel_rfl
end Go.Proofs.YtbmelgbadedbbaaGreat
