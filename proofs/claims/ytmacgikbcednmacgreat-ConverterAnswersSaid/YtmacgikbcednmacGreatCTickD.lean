/-
  Contracts of the functions that decode tickets, and of the data's tickets.
-/
import Derived.Test.YtmacgikbcednmacGreatCTick
set_option linter.all false
namespace Go.Sx
open Go.Proofs Go.RowKit

set_option maxRecDepth 10000
set_option maxHeartbeats 4000000
end Go.Sx
