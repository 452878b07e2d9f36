/-
  TopChange answers true where who is 1 modulo 4, with the realm's byte order 0 and the person's 0: by running.
-/
import Derived.Test.YtihnbghdddbimaaGreatDoorKAw
import Derived.Test.YtihnbghdddbimaaGreatDoorKRu
set_option linter.all false
namespace Go.Sx
open Go.Proofs
set_option maxRecDepth 1000000 in
theorem run10 : runB (kx rl10 fa4 [68]) 60 3 inS [] yesK = 0 := by kernel_rfl
set_option maxRecDepth 100000 in
theorem top10 (i : In13) (hw : i.who % 4 = 1) (hr : i.ord / 1 % 2 = 0) (hp : i.ord / 8 % 2 = 0) : FnX Tryz.prog 3 (dCs (rho i) inS) [] [.o (.b true)] [] :=
  (run_yes (tabOk rl10 fa4 [68]) ⟨rho_n i, rho_b i, tabZ (rho_n i), rl10_ok i hw hr hp⟩ (primOk rl10 fa4 [68]) (fa4_ok (rho i) rl10) inS_ids run10).2
end Go.Sx
