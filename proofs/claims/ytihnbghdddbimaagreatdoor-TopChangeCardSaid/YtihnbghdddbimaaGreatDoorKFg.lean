/-
  Facts about the whole program: nothing in it starts a goroutine; it does not look.
-/
import Derived.Test.YtihnbghdddbimaaGreatDoorRows
import Derived.JoinedOf
import Derived.Stop.Joined
import Derived.SevenTiedAt
set_option linter.all false
namespace Go.Proofs.YtihnbghdddbimaaGreatDoor
open Go.ChangeShapes Go.WideShapes
set_option maxRecDepth 100000 in
theorem jF : false = Tryz.prog.looks [] := by kernel_rfl
set_option maxRecDepth 100000 in
theorem jU : Tryz.prog.funcs.any Func.goes = false := by kernel_rfl
end Go.Proofs.YtihnbghdddbimaaGreatDoor
