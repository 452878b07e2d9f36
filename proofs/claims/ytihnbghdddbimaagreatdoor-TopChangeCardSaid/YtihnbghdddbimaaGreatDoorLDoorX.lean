/-
  What the program lays before a law is called: the table of the row stands in the heap at the door: no conditions.
-/
import Derived.Test.YtihnbghdddbimaaGreatDoorLOwn
import Derived.Test.YtihnbghdddbimaaGreatDoorTie
import Derived.Test.YtihnbghdddbimaaGreatDoorCards
import Derived.LaidMore
import Derived.SevenTiedAt
import Derived.Stop.Joined
set_option linter.all false
namespace Go.Sx
open Go.Proofs Go.ChangeShapes Go.WideShapes Go.ChangeAt Go.RowKit
def laidA : List (String × DataW Unit) := [("kerbsuite/kdcmessage.texts", Go.Proofs.YtihnbghdddbimaaGreatDoor.Rows.laid_kerbsuite_kdcmessage_texts)]
set_option maxRecDepth 100000 in
theorem door_metA (os : Os) (args : Array Value) : laidMetH Tryz.prog laidA ((World.doorLaid Tryz.prog 24 os).forCall (fun _ _ => 0) ⟨#[], args, []⟩).memory :=
  laidMetH_of_parts3 (fuel := 8) (laidMet_of_run' 8 (by kernel_rfl) (by kernel_rfl)) (by kernel_rfl) (by kernel_rfl)
end Go.Sx
