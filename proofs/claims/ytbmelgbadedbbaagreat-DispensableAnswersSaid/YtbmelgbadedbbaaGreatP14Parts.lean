/- The strongly connected parts of a configuration, as the program finds them. -/
import Derived.Test.YtbmelgbadedbbaaGreatP14Pquor
namespace Go.Proofs.YtbmelgbadedbbaaGreat
open Go Go.Ab Go.Sort
section
variable {c : Config} {R : Nat → Nat}
end
end Go.Proofs.YtbmelgbadedbbaaGreat
