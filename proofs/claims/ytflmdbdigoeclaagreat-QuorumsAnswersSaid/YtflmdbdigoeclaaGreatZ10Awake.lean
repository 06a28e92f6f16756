/- The example of the chapter, computed. -/
import Derived.Test.YtflmdbdigoeclaaGreatZ10Base
namespace Go.Proofs.YtflmdbdigoeclaaGreat
open Go Go.Ab
set_option maxRecDepth 100000 in
theorem awake_run : call env 3000 5 [] [] = some (.d (.v (.bool true)), []) := by kernel_rfl
theorem awake_true : law10_awake = some true := callC_of (T := tn) (o := ⟨[.lf .b], []⟩) sigOk ⟨3000, awake_run⟩
end Go.Proofs.YtflmdbdigoeclaaGreat
