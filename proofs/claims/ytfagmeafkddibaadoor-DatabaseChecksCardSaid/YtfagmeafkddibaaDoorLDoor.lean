/-
  What the program lays before a law is called: the tables of the rows stand in the heap at the door: no conditions.
-/
import Derived.Test.YtfagmeafkddibaaDoorLOwn
import Derived.Test.YtfagmeafkddibaaDoorTie
import Derived.Test.YtfagmeafkddibaaDoorCards
import Derived.LaidMore
import Derived.SevenTiedAt
import Derived.Stop.Joined
set_option linter.all false
namespace Go.Sx
open Go.Proofs Go.ChangeShapes Go.WideShapes Go.ChangeAt Go.RowKit
def laidA : List (String × DataW Unit) := [("math/bits.deBruijn32tab", Go.Proofs.YtfagmeafkddibaaDoor.Rows.laid_math_bits_deBruijn32tab), ("math/bits.deBruijn64tab", Go.Proofs.YtfagmeafkddibaaDoor.Rows.laid_math_bits_deBruijn64tab), ("internal/strconv.uint64pow10", Go.Proofs.YtfagmeafkddibaaDoor.Rows.laid_internal_strconv_uint64pow10)]
set_option maxRecDepth 100000 in
theorem door_metA (os : Os) (args : Array Value) : laidMetH Tryd.prog laidA ((World.doorLaid Tryd.prog 24 os).forCall (fun _ _ => 0) ⟨#[], args, []⟩).memory :=
  laidMetH_of_parts3 (fuel := 8) (laidMet_of_run' 8 (by kernel_rfl) (by kernel_rfl)) (by kernel_rfl) (by kernel_rfl)
end Go.Sx
