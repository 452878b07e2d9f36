/-
  Two facts about the whole program, for the frames of the laws: no conditions.
-/
import Derived.Test.YtcnemhfgpldplabTa
import Derived.Test.YtcnemhfgpldplabSxLib
import Derived.Test.YtcnemhfgpldplabRows
import Derived.ProofKit
import Derived.OpenShut
set_option linter.all false
namespace Go.Sx
open Go.Proofs Go.ChangeShapes Go.WideShapes Go.ChangeAt Go.RowKit
theorem ownA : ownKnob Try.prog.godebug = none := by kernel_rfl
theorem laidOutA : laidOutB Try.prog = true := by kernel_rfl
end Go.Sx
