/-
  Contracts of the functions that look through caches of credentials, and of their reference.
-/
import Derived.Test.YtmacgikbcednmacGreatPX2
import Derived.Test.YtmacgikbcednmacGreatCKey
import Derived.Test.YtmacgikbcednmacGreatCFieldP
set_option linter.all false
namespace Go.Sx
open Go.Proofs Go.RowKit
set_option maxRecDepth 10000
set_option maxHeartbeats 4000000
end Go.Sx
