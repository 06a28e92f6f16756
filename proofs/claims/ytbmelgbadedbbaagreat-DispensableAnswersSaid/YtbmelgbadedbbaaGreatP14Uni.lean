/- Configurations whose members all have one trust. -/
import Derived.Test.YtbmelgbadedbbaaGreatP14Pquor
namespace Go.Proofs.YtbmelgbadedbbaaGreat
open Go Go.Ab Go.Sort
def uni (n : Nat) (x : Trust) : Config := ⟨List.replicate n ⟨true, x⟩⟩
end Go.Proofs.YtbmelgbadedbbaaGreat
