/- The strongly connected parts of a configuration, as the program finds them. -/
import Derived.Test.YtfjcndlhpfbcgaaP16Pquor
namespace Go.Proofs.Ytfjcndlhpfbcgaa
open Go Go.Ab Go.Sort
section
variable {c : Config} {R : Nat → Nat}
end
end Go.Proofs.Ytfjcndlhpfbcgaa
