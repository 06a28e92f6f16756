/- From an answer on the machine to a walk in any world. -/
import Derived.Test.YtbmelgbadedbbaaGreatP14Base
import Derived.Test.YtbmelgbadedbbaaGreatRows
import Derived.ProofKit
import Derived.LaidMore
import Derived.OpenShut
import Derived.Stop.Joined
namespace Go.Proofs.YtbmelgbadedbbaaGreat
open Go Go.Ab Go.ChangeShapes Go.WideShapes Go.ChangeAt Go.WideMaps Go.WideElems Go.RowKit
theorem Tryz.own : ownKnob Tryz.prog.godebug = none := by kernel_rfl
theorem Tryz.laidOut : laidOutB Tryz.prog = true := by kernel_rfl
end Go.Proofs.YtbmelgbadedbbaaGreat
