/-
  Contracts of the functions of package field and of its reference.
-/
import Derived.Test.YtdpbmmmdmecfdaaGreatDoorCBytes
import Derived.Test.YtdpbmmmdmecfdaaGreatDoorPX1
set_option linter.all false
namespace Go.Sx
open Go.Proofs Go.RowKit

set_option maxRecDepth 10000
set_option maxHeartbeats 2000000
end Go.Sx
