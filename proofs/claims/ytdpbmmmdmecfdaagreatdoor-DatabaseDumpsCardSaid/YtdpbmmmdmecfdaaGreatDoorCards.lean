/-
  DERIVED. GIVEN WITH THE SEED: THE CARDS: each row of YtdpbmmmdmecfdaaGreatDoorRows.lean that lists a variable, with what it lists TIED to the program's text (the seventh form; the later family's looks); each row that meets fmt, with fmt's text TOLD by the authors' own Lean function (tested against real Go, not proved from fmt's source: count such statements apart). THE CARD IS WHAT COUNTS. Prove the row's statement (the work); the ties are given (YtdpbmmmdmecfdaaGreatDoorTie.lean); close each card by the builder's one call (the guide's Derived/Test/ToyasCard.lean, 'card_holds'). Laid BY PROGRAM, IN A SANDBOX (cutbox-door.mjs). By AI agents, Wed Nov 11 2026. No macro, syntax, notation, axiom, sorry.
-/
import Derived.Test.YtdpbmmmdmecfdaaGreatDoorRows
import GoSem.ClaimSeven
namespace Go.Proofs.YtdpbmmmdmecfdaaGreatDoor
namespace Rows

/-- THE TIED CARD OF 'kerbsuitelaw12.DatabaseDumps'. -/
def databaseDumpsCard : Claim7 := { stood := { row := databaseDumpsRow, standIns := [], harness := (true, "6c05c057eeeda2ddd1b3b37a220deb855b70fdec2a191e74bddbcfdc1829b677"), looks := true }, kinds := [], alts := [], laidByText := true, laidKinds := [.data, .data, .data, .data, .sentinel, .sentinel, .pinned], laidTests := true, laidLooks := .later }
def DatabaseDumpsCardSaid : Prop := Claim7.holds Tryz.pinned (.plain (OpenSpec.ofChange databaseDumpsSpec)) databaseDumpsCard

/-- THE SECOND FORM's CARD OF 'kerbsuitelaw12.DatabaseDumps'. -/
def databaseDumpsUptoCard : Claim7 := { stood := { row := databaseDumpsUptoRow, standIns := [], harness := (true, "6c05c057eeeda2ddd1b3b37a220deb855b70fdec2a191e74bddbcfdc1829b677"), looks := true }, kinds := [], alts := [], laidByText := true, laidKinds := [.data, .data, .data, .data, .sentinel, .sentinel, .pinned], laidTests := true, laidLooks := .later }
def DatabaseDumpsUptoCardSaid : Prop := Claim7.holds Tryz.pinned (.plain (OpenSpec.upto databaseDumpsSpec)) databaseDumpsUptoCard
end Rows
end Go.Proofs.YtdpbmmmdmecfdaaGreatDoor
