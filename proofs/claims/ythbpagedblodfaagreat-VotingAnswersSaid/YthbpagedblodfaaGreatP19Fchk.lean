/- The seat's functions pass the check. -/
import Derived.Test.YthbpagedblodfaaGreatP19Env
import Derived.Test.YthbpagedblodfaaGreatP19Df
namespace Go.Proofs.YthbpagedblodfaaGreat
open Go Go.Ab
def qwm (P : Program) (an : An) (h : Nat) : Bool :=
 match P.funcs[h]? with
 | some fn => match fn.body with
  | some c => decide (fn.name ≠ "runtime.NumGoroutine") && q53 (q9c an) h fn.ntmps c
  | none => false
 | none => false
set_option maxRecDepth 100000 in
theorem qkq : ((List.range (lastF + 1)).all fun h => !okF h || qwm Tryz.prog an h) = true := by kernel_rfl
theorem mixed : Tryz.prog.follows .mixedOrders = true := by kernel_rfl
end Go.Proofs.YthbpagedblodfaaGreat
