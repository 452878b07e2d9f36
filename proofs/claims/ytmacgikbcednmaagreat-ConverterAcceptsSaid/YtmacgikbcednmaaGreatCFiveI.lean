/-
  Contracts of the issues of package five and of what a client accepts, and of the reference.
-/
import Derived.Test.YtmacgikbcednmaaGreatPX2
import Derived.Test.YtmacgikbcednmaaGreatCFiveDR
import Derived.Test.YtmacgikbcednmaaGreatCFiveDP
import Derived.Test.YtmacgikbcednmaaGreatCFiveDM
import Derived.Test.YtmacgikbcednmaaGreatCDbB
import Derived.Test.YtmacgikbcednmaaGreatCBox
set_option linter.all false
namespace Go.Sx
open Go.Proofs Go.RowKit
section
variable {a : FArg}
end

set_option maxRecDepth 10000
set_option maxHeartbeats 8000000
end Go.Sx
