/-
  TopChange answers true where who is 0 modulo 4, with the realm's byte order 0 and the person's 0: by running.
-/
import Derived.Test.YtihnbghdddbimaaGreatDoorKAw
import Derived.Test.YtihnbghdddbimaaGreatDoorKRu
set_option linter.all false
namespace Go.Sx
open Go.Proofs
set_option maxRecDepth 1000000 in
theorem run00 : runB (kx rl00 fa4 [68]) 60 3 inS [] yesK = 0 := by kernel_rfl
set_option maxRecDepth 100000 in
theorem top00 (i : In13) (hw : i.who % 4 = 0) (hr : i.ord / 1 % 2 = 0) (hp : i.ord / 4 % 2 = 0) : FnX Tryz.prog 3 (dCs (rho i) inS) [] [.o (.b true)] [] :=
  (run_yes (tabOk rl00 fa4 [68]) ⟨rho_n i, rho_b i, tabZ (rho_n i), rl00_ok i hw hr hp⟩ (primOk rl00 fa4 [68]) (fa4_ok (rho i) rl00) inS_ids run00).2
end Go.Sx
