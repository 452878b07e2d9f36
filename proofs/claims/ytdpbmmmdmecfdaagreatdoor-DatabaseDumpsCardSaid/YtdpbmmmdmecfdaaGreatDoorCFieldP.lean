/-
  Contracts of the functions that read principals, of the document's reader, and of bytes.Equal.
-/
import Derived.Test.YtdpbmmmdmecfdaaGreatDoorPX1
import Derived.Test.YtdpbmmmdmecfdaaGreatDoorCPrin
import Derived.Test.YtdpbmmmdmecfdaaGreatDoorCFieldT
set_option linter.all false
namespace Go.Sx
open Go.Proofs Go.RowKit

set_option maxRecDepth 10000
set_option maxHeartbeats 2000000
end Go.Sx
