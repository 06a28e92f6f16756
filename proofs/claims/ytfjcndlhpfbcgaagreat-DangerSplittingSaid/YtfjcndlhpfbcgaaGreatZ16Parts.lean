/- The strongly connected parts of a configuration, as the program finds them. -/
import Derived.Test.YtfjcndlhpfbcgaaGreatZ16Pquor
namespace Go.Proofs.YtfjcndlhpfbcgaaGreat
open Go Go.Ab Go.Sort
section
variable {c : Config} {R : Nat → Nat}
end
end Go.Proofs.YtfjcndlhpfbcgaaGreat
