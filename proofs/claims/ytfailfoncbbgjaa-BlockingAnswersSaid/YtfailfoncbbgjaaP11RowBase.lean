/- From an answer on the machine to a walk in any world. -/
import Derived.Test.YtfailfoncbbgjaaP11Base
import Derived.Test.YtfailfoncbbgjaaRows
import Derived.ProofKit
import Derived.LaidMore
import Derived.OpenShut
import Derived.Stop.Joined
namespace Go.Proofs.Ytfailfoncbbgjaa
open Go Go.Ab Go.ChangeShapes Go.WideShapes Go.ChangeAt Go.WideMaps Go.WideElems Go.RowKit
theorem Try.own : ownKnob Try.prog.godebug = none := by kernel_rfl
theorem Try.laidOut : laidOutB Try.prog = true := by kernel_rfl
end Go.Proofs.Ytfailfoncbbgjaa
