/- From an answer on the machine to a walk in any world. -/
import Derived.Test.YtfjcndlhpfbcgaaP16Base
import Derived.Test.YtfjcndlhpfbcgaaRows
import Derived.ProofKit
import Derived.LaidMore
import Derived.OpenShut
import Derived.Stop.Joined
namespace Go.Proofs.Ytfjcndlhpfbcgaa
open Go Go.Ab Go.ChangeShapes Go.WideShapes Go.ChangeAt Go.WideMaps Go.WideElems Go.RowKit
theorem Try.own : ownKnob Try.prog.godebug = none := by kernel_rfl
theorem Try.laidOut : laidOutB Try.prog = true := by kernel_rfl
end Go.Proofs.Ytfjcndlhpfbcgaa
