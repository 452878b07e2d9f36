/-
  Contracts of the functions of package field and of its reference.
-/
import Derived.Test.YtfagmeafkddibaaDoorCBytes
import Derived.Test.YtfagmeafkddibaaDoorPField
set_option linter.all false
namespace Go.Sx
open Go.Proofs Go.RowKit

set_option maxRecDepth 10000
set_option maxHeartbeats 2000000
theorem c_rPutPrincipal_dummy : True := trivial
end Go.Sx
