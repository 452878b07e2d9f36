/-
  Contracts of the functions of package field that read, and of its reference.
-/
import Derived.Test.YtdpbmmmdmecfdaaGreatDoorCField
set_option linter.all false
namespace Go.Sx
open Go.Proofs Go.RowKit

set_option maxRecDepth 10000
set_option maxHeartbeats 2000000
end Go.Sx
