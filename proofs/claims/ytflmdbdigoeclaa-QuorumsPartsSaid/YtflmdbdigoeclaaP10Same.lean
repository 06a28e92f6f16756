/- Equality of trusts and configurations. -/
import Derived.Test.YtflmdbdigoeclaaP10Sets
namespace Go.Proofs.Ytflmdbdigoeclaa
open Go Go.Ab
end Go.Proofs.Ytflmdbdigoeclaa
