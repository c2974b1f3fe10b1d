/- Contract of the reference for fits: the check. -/
import Derived.Test.YtldghloflegpmaaRfC
namespace Go.Proofs.Ytldghloflegpmaa
open Go.RowKit Pu Go.Lib

end Go.Proofs.Ytldghloflegpmaa
