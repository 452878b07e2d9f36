/-
  DERIVED. GIVEN WITH THE SEED: THE CARDS: each row of YtihnbghdddbimaaGreatDoorRows.lean that lists a variable, with what it lists TIED to the program's text (the seventh form; the later family's looks); each row that meets fmt, with fmt's text TOLD by the authors' own Lean function (tested against real Go, not proved from fmt's source: count such statements apart). THE CARD IS WHAT COUNTS. Prove the row's statement (the work); the ties are given (YtihnbghdddbimaaGreatDoorTie.lean); close each card by the builder's one call (the guide's Derived/Test/ToyasCard.lean, 'card_holds'). Laid BY PROGRAM, IN A SANDBOX (cutbox-door.mjs). By AI agents, Wed Nov 11 2026. No macro, syntax, notation, axiom, sorry.
-/
import Derived.Test.YtihnbghdddbimaaGreatDoorRows
import GoSem.ClaimSeven
namespace Go.Proofs.YtihnbghdddbimaaGreatDoor
namespace Rows

/-- THE TIED CARD OF 'kerbsuitetop.TopChange'. -/
def topChangeCard : Claim7 := { stood := { row := topChangeRow, standIns := [], harness := (true, "b4676c08a81206cfc987f1ca7dd6b459a9fff728749eb185fff8d7e199e12ab5"), looks := false }, kinds := [], alts := [], laidByText := true, laidKinds := [.data], laidTests := true, laidLooks := .later }
def TopChangeCardSaid : Prop := Claim7.holds Tryz.pinned (.plain (OpenSpec.ofChange topChangeSpec)) topChangeCard

/-- THE SECOND FORM's CARD OF 'kerbsuitetop.TopChange'. -/
def topChangeUptoCard : Claim7 := { stood := { row := topChangeUptoRow, standIns := [], harness := (true, "b4676c08a81206cfc987f1ca7dd6b459a9fff728749eb185fff8d7e199e12ab5"), looks := false }, kinds := [], alts := [], laidByText := true, laidKinds := [.data], laidTests := true, laidLooks := .later }
def TopChangeUptoCardSaid : Prop := Claim7.holds Tryz.pinned (.plain (OpenSpec.upto topChangeSpec)) topChangeUptoCard
end Rows
end Go.Proofs.YtihnbghdddbimaaGreatDoor
