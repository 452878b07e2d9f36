/-
  Contracts of the functions of package principal and of its reference.
-/
import Derived.Test.YtkphcbogdmblnaaPPrin
import Derived.Test.YtkphcbogdmblnaaCBytes
set_option linter.all false
namespace Go.Sx
open Go.Proofs Go.RowKit

set_option maxRecDepth 10000
set_option maxHeartbeats 2000000
end Go.Sx
