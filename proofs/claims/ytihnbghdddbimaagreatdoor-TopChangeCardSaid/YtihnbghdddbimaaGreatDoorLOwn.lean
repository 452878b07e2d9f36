/-
  Two facts about the whole program, for the frames of the laws: no conditions.
-/
import Derived.Test.YtihnbghdddbimaaGreatDoorTa
import Derived.Test.YtihnbghdddbimaaGreatDoorSxD
import Derived.Test.YtihnbghdddbimaaGreatDoorRows
import Derived.ProofKit
import Derived.OpenShut
set_option linter.all false
namespace Go.Sx
open Go.Proofs Go.ChangeShapes Go.WideShapes Go.ChangeAt Go.RowKit
theorem ownA : ownKnob Tryz.prog.godebug = none := by kernel_rfl
theorem laidOutA : laidOutB Tryz.prog = true := by kernel_rfl
end Go.Sx
