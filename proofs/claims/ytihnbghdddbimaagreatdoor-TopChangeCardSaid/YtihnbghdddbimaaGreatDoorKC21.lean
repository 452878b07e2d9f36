/-
  TopChange answers true where who is 2 modulo 4, with the realm's byte order 1 and the person's 0: by running.
-/
import Derived.Test.YtihnbghdddbimaaGreatDoorKAw
import Derived.Test.YtihnbghdddbimaaGreatDoorKRu
set_option linter.all false
namespace Go.Sx
open Go.Proofs
set_option maxRecDepth 1000000 in
theorem run21 : runB (kx rl21 fa4 [68]) 60 3 inS [] yesK = 0 := by kernel_rfl
set_option maxRecDepth 100000 in
theorem top21 (i : In13) (hw : i.who % 4 = 2) (hr : i.ord / 2 % 2 = 1) (hp : i.ord / 16 % 2 = 0) : FnX Tryz.prog 3 (dCs (rho i) inS) [] [.o (.b true)] [] :=
  (run_yes (tabOk rl21 fa4 [68]) ⟨rho_n i, rho_b i, tabZ (rho_n i), rl21_ok i hw hr hp⟩ (primOk rl21 fa4 [68]) (fa4_ok (rho i) rl21) inS_ids run21).2
end Go.Sx
