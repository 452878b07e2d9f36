/-
  Contracts of the issues of package five and of what a client accepts, and of the reference.
-/
import Derived.Test.YtmacgikbcednmacGreatPX2
import Derived.Test.YtmacgikbcednmacGreatCFiveDR
import Derived.Test.YtmacgikbcednmacGreatCFiveDP
import Derived.Test.YtmacgikbcednmacGreatCFiveDM
import Derived.Test.YtmacgikbcednmacGreatCDbB
import Derived.Test.YtmacgikbcednmacGreatCBox
set_option linter.all false
namespace Go.Sx
open Go.Proofs Go.RowKit
section
variable {a : FArg}
end

set_option maxRecDepth 10000
set_option maxHeartbeats 8000000
end Go.Sx
