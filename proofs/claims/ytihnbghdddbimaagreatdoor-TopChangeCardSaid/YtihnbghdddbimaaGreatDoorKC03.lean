/-
  TopChange answers true where who is 0 modulo 4, with the realm's byte order 1 and the person's 1: by running.
-/
import Derived.Test.YtihnbghdddbimaaGreatDoorKAw
import Derived.Test.YtihnbghdddbimaaGreatDoorKRu
set_option linter.all false
namespace Go.Sx
open Go.Proofs
set_option maxRecDepth 1000000 in
theorem run03 : runB (kx rl03 fa4 [68]) 60 3 inS [] yesK = 0 := by kernel_rfl
set_option maxRecDepth 100000 in
theorem top03 (i : In13) (hw : i.who % 4 = 0) (hr : i.ord / 1 % 2 = 1) (hp : i.ord / 4 % 2 = 1) : FnX Tryz.prog 3 (dCs (rho i) inS) [] [.o (.b true)] [] :=
  (run_yes (tabOk rl03 fa4 [68]) ⟨rho_n i, rho_b i, tabZ (rho_n i), rl03_ok i hw hr hp⟩ (primOk rl03 fa4 [68]) (fa4_ok (rho i) rl03) inS_ids run03).2
end Go.Sx
