/-
  Contracts of the functions of package field on texts and padding, and of its reference.
-/
import Derived.Test.YtdpbmmmdmecfdaaGreatDoorCFieldR
set_option linter.all false
namespace Go.Sx
open Go.Proofs Go.RowKit

set_option maxRecDepth 10000
set_option maxHeartbeats 2000000
end Go.Sx
