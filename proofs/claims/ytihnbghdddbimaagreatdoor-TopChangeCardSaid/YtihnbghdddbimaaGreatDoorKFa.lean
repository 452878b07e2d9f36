/-
  A fact about the whole program: its maps stand in rows; its keys are plain.
-/
import Derived.Test.YtihnbghdddbimaaGreatDoorRows
import Derived.JoinedOf
import Derived.Stop.Joined
set_option linter.all false
namespace Go.Proofs.YtihnbghdddbimaaGreatDoor
open Go.ChangeShapes Go.WideShapes
set_option maxRecDepth 100000 in
theorem j2 : (mapsRowed Tryz.prog) = true := by kernel_rfl
set_option maxRecDepth 100000 in
theorem j22 : ((Rows.topChangeRow.plainKeys == Tryz.prog.plainKeys)) = true := by kernel_rfl
end Go.Proofs.YtihnbghdddbimaaGreatDoor
