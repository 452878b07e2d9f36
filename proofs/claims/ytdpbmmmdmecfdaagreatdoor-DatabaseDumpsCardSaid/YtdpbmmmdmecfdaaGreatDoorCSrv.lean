/-
  Contracts of the functions that look through lists of keys of services, and of their reference.
-/
import Derived.Test.YtdpbmmmdmecfdaaGreatDoorPX2
import Derived.Test.YtdpbmmmdmecfdaaGreatDoorCKey
import Derived.Test.YtdpbmmmdmecfdaaGreatDoorCFieldP
set_option linter.all false
namespace Go.Sx
open Go.Proofs Go.RowKit
set_option maxRecDepth 10000
set_option maxHeartbeats 2000000
end Go.Sx
