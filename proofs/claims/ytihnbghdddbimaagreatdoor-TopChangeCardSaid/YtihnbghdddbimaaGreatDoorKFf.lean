/-
  Facts about the whole program: its stops are heard, it may be entered, the law's function stands in it.
-/
import Derived.Test.YtihnbghdddbimaaGreatDoorRows
import Derived.JoinedOf
import Derived.Stop.Joined
set_option linter.all false
namespace Go.Proofs.YtihnbghdddbimaaGreatDoor
open Go.ChangeShapes Go.WideShapes
set_option maxRecDepth 100000 in
theorem j24 : (Tryz.prog.stopsHeard) = true := by kernel_rfl
set_option maxRecDepth 100000 in
theorem j25 : (Tryz.prog.mayEnter) = true := by kernel_rfl
set_option maxRecDepth 100000 in
theorem jA : Tryz.prog.funcNamed "kerbsuite/kerbsuitetop.TopChange" = some 3 := by kernel_rfl
end Go.Proofs.YtihnbghdddbimaaGreatDoor
