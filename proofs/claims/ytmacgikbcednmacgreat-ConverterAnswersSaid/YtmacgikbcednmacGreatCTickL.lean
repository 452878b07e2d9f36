/-
  Contracts of the data's tickets, and of the small functions of the laws about tickets.
-/
import Derived.Test.YtmacgikbcednmacGreatCTickD
set_option linter.all false
namespace Go.Sx
open Go.Proofs Go.RowKit

set_option maxRecDepth 10000
set_option maxHeartbeats 4000000
end Go.Sx
