/-
  Contracts of package database and of its reference: what is added and changed.
-/
import Derived.Test.YtmacgikbcednmacGreatCDbB
set_option linter.all false
namespace Go.Sx
open Go.Proofs Go.RowKit
theorem ins_flat (e : DE) (l : List DE) {j : Nat} (h : posD e l = j) : flat deR (l.take j) ++ deR e ++ flat deR (l.drop j) = flat deR (insD e l) := by
  subst h; rw [insD, flat_append, flat_append, flat_one]
theorem miss_next' {l : List DE} {e : DE} {j : Nat} (h : ∀ i, i < j → ¬ 0 < deO (l.getD i de0) e) (h2 : ¬ 0 < deO (l.getD j de0) e) : ∀ i, i < j + 1 → ¬ 0 < deO (l.getD i de0) e := fun i hi => by
  by_cases q : i = j
  · subst q; exact h2
  · exact h i (by omega)

set_option maxRecDepth 10000
set_option maxHeartbeats 4000000
end Go.Sx
