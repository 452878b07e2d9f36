/-
  Contracts of the issues of package five and of what a client accepts, and of the reference.
-/
import Derived.Test.YtmacgikbcednmabGreatPX2
import Derived.Test.YtmacgikbcednmabGreatCFiveDR
import Derived.Test.YtmacgikbcednmabGreatCFiveDP
import Derived.Test.YtmacgikbcednmabGreatCFiveDM
import Derived.Test.YtmacgikbcednmabGreatCDbB
import Derived.Test.YtmacgikbcednmabGreatCBox
set_option linter.all false
namespace Go.Sx
open Go.Proofs Go.RowKit
section
variable {a : FArg}
end

set_option maxRecDepth 10000
set_option maxHeartbeats 8000000
end Go.Sx
