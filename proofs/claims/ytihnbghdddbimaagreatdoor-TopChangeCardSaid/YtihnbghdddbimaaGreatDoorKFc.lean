/-
  A fact about the whole program: whether a call of the law's function is not followed.
-/
import Derived.Test.YtihnbghdddbimaaGreatDoorRows
import Derived.JoinedOf
import Derived.Stop.Joined
set_option linter.all false
namespace Go.Proofs.YtihnbghdddbimaaGreatDoor
open Go.ChangeShapes Go.WideShapes
set_option maxRecDepth 100000 in
theorem j10 : ((Rows.topChangeRow.unfollowed == Tryz.prog.unfollowed 3)) = true := by kernel_rfl
end Go.Proofs.YtihnbghdddbimaaGreatDoor
