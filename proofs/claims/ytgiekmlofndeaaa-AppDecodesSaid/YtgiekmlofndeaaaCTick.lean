/-
  Contracts of the functions of package ticket and of its reference.
-/
import Derived.Test.YtgiekmlofndeaaaPTick
import Derived.Test.YtgiekmlofndeaaaCKey
import Derived.Test.YtgiekmlofndeaaaCFieldP
import Derived.Test.YtgiekmlofndeaaaCData
set_option linter.all false
namespace Go.Sx
open Go.Proofs Go.RowKit

set_option maxRecDepth 10000
set_option maxHeartbeats 4000000
end Go.Sx
