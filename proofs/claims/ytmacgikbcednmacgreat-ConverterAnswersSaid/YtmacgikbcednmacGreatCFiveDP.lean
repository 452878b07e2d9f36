/-
  Contracts of a decoder of package five and of its reference.
-/
import Derived.Test.YtmacgikbcednmacGreatCFiveE
set_option linter.all false
namespace Go.Sx
open Go.Proofs Go.RowKit

set_option maxRecDepth 10000
set_option maxHeartbeats 4000000
end Go.Sx
