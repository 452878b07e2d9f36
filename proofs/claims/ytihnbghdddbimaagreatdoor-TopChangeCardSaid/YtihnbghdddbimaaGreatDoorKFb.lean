/-
  A fact about the whole program: what the law's function reaches without a text.
-/
import Derived.Test.YtihnbghdddbimaaGreatDoorRows
import Derived.JoinedOf
import Derived.Stop.Joined
set_option linter.all false
namespace Go.Proofs.YtihnbghdddbimaaGreatDoor
open Go.ChangeShapes Go.WideShapes
set_option maxRecDepth 100000 in
theorem j9 : ((Rows.topChangeRow.inPlace == Tryz.prog.inPlace 3)) = true := by kernel_rfl
end Go.Proofs.YtihnbghdddbimaaGreatDoor
