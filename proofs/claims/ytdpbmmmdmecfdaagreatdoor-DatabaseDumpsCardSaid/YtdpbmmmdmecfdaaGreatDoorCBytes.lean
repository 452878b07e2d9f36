/-
  Contracts of functions of Go's library on bytes and texts.
-/
import Derived.Test.YtdpbmmmdmecfdaaGreatDoorSxLib
import Derived.Test.YtdpbmmmdmecfdaaGreatDoorTa
import Derived.Lib.BytesEntry
import Derived.Lib.IndexLaws
set_option linter.all false
namespace Go.Sx
open Go.Proofs Go.RowKit

set_option maxRecDepth 10000
set_option maxHeartbeats 2000000
end Go.Sx
