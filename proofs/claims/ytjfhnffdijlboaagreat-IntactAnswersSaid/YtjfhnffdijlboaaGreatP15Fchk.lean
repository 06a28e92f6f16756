/- The seat's functions pass the check. -/
import Derived.Test.YtjfhnffdijlboaaGreatP15Env
import Derived.Test.YtjfhnffdijlboaaGreatP15Df
namespace Go.Proofs.YtjfhnffdijlboaaGreat
open Go Go.Ab
def qx9 (P : Program) (an : An) (h : Nat) : Bool :=
 match P.funcs[h]? with
 | some fn => match fn.body with
  | some c => decide (fn.name ≠ "runtime.NumGoroutine") && q5d (qa0 an) h fn.ntmps c
  | none => false
 | none => false
set_option maxRecDepth 100000 in
theorem qjq : ((List.range (lastF + 1)).all fun h => !okF h || qx9 Tryz.prog an h) = true := by kernel_rfl
theorem mixed : Tryz.prog.follows .mixedOrders = true := by kernel_rfl
end Go.Proofs.YtjfhnffdijlboaaGreat
