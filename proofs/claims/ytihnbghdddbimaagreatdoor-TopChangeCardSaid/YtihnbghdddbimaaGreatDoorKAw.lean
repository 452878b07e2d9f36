/-
  The sanity check 'awake' answers true: by running.
-/
import Derived.Test.YtihnbghdddbimaaGreatDoorKPr
set_option linter.all false
namespace Go.Sx
open Go.Proofs
noncomputable def rho0 (n : Int) : Int := sel (isS n) 0 n
noncomputable def kx0 : Kx := kx [] .l [68]
theorem sym0 : SymOk rho0 kx0 (tabF tab) where
  n := fun n h => by unfold rho0; rw [h]; rfl
  b := fun n h => by unfold rho0; rw [(isS_iff n).2 (by omega)]; exact (show (0 : Int) ≤ 0 ∧ (0 : Int) ≤ 255 from ⟨by decide, by decide⟩)
  Z := tabZ fun n h => by unfold rho0; rw [h]; rfl
  R := fun q hq => by cases hq
set_option maxRecDepth 1000000 in
theorem awake_run : runB kx0 60 4 [] [] yesK = 0 := by kernel_rfl
theorem awake_ok : elemN 4 xsA = true ∧ FnX Tryz.prog 4 [] [] [.o (.b true)] [] := run_yes (tabOk _ _ _) sym0 (primOk _ _ _) (fun f l h => by cases h) rfl awake_run
/-- what is known ahead of a run -/
def fa4 : Tr (List Fa) := .n 4 [⟨4, [], [], [.o (.b true)], []⟩] .l .l
theorem fa4_ok (ρ : Int → Int) (R : List Rl) : FactOk Tryz.prog ρ (kx R fa4 [68]) xsA := by
  intro f l h
  have key : fa4.All fun f l => ∀ q ∈ l, elemN f xsA = true ∧ FnX Tryz.prog f (dCs ρ q.cs) (dX ρ q.bs) (dCs ρ q.rs) (dX ρ q.bs') := by
    refine ⟨trivial, fun q hq => ?_, trivial⟩
    cases List.mem_singleton.1 hq
    exact awake_ok
  exact key.find h
end Go.Sx
