/- Danger where all trust in so many of the first nodes: it depends on the number of nodes alone. -/
import Derived.Test.YtbmelgbadedbbaaGreatP14Danger
namespace Go.Proofs.YtbmelgbadedbbaaGreat
open Go Go.Ab Go.Sort
end Go.Proofs.YtbmelgbadedbbaaGreat
