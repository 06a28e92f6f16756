/- The example of the chapter, computed. -/
import Derived.Test.YtfailfoncbbgjaaP11Base
namespace Go.Proofs.Ytfailfoncbbgjaa
open Go Go.Ab
set_option maxRecDepth 100000 in
theorem awake_run : call env 3000 11 [] [] = some (.d (.v (.bool true)), []) := by kernel_rfl
theorem awake_true : law11_awake = some true := callC_of (T := tn) (o := ⟨[.lf .b], []⟩) sigOk ⟨3000, awake_run⟩
end Go.Proofs.Ytfailfoncbbgjaa
