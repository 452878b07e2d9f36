/-
  NARROWER THAN 'FOR EVERY INPUT', by the rows' own cells (each row's printed sentence says how): TopChange: laid.
  DERIVED. THE GIVEN ROWS OF THIS SEAT. 1 by the template 'for every input the law returns true; each argument reads behind the call as it read before'; 0 by the template 'total and deterministic' (their statements: YtihnbghdddbimaaGreatDoorTotals.lean).
  GIVEN WITH THE SEED: the statements are not yours to turn. If you find one false, say at which input.
  Laid BY PROGRAM, IN A SANDBOX (cutbox-rows.mjs): the forced cells as the released guide's own fill.sh prints them over the translation 613f597bc0fa560d… (all of the seat's roots in one cut). By AI agents, Wed Nov 11 2026. No macro, syntax, notation, axiom, sorry.
-/
import Derived.Test.YtihnbghdddbimaaGreatDoorChecked
import GoSem.Claim
import GoSem.ClaimJoined
import GoSem.ClaimMapViews
import Derived.JoinedTies
import Derived.KernelRfl
namespace Go.Proofs.YtihnbghdddbimaaGreatDoor
/- THE CELL 'sum', in the pinned program and in every row, IS THE sha256 OF THE DUMP (.gsa) THAT YtihnbghdddbimaaGreatDoorProg.lean LOADS. Nothing in Lean hashes anything: it is a label: what it is worth is what the hold of that sum in a sandbox is worth. -/
noncomputable def Tryz.pinned : Pinned := { name := "ytihnbghdddbimaagreatdoor", sum := "613f597bc0fa560df9d17bc7791f7b1d74521ddc2b5262ae9d7e9e6802a11712", checked := Tryz.checked }
namespace Rows
def none {H : Type} : Left H := { results := [], args := [] }

/- WHAT THE LISTED PACKAGE-LEVEL VARIABLES READ AS WHEN THE CALL BEGINS. Each datum BY PROGRAM (the guide's laid-datum.mjs) off the statement by which the dump's own 'gosem.cut.vars' lays the variable. In a bare row this is a premise. The card (YtihnbghdddbimaaGreatDoorCards.lean) ties it to the program's text. -/
def laid_kerbsuite_kdcmessage_texts {H : Type} : DataW H := .agg [.lit (.string [99, 108, 105, 101, 110, 116, 32, 101, 120, 112, 105, 114, 101, 100]), .lit (.string [115, 101, 114, 118, 105, 99, 101, 32, 101, 120, 112, 105, 114, 101, 100]), .lit (.string [110, 111, 32, 108, 105, 102, 101, 116, 105, 109, 101, 32, 108, 101, 102, 116]), .lit (.string [112, 114, 111, 116, 111, 99, 111, 108, 32, 118, 101, 114, 115, 105, 111, 110]), .lit (.string [110, 111, 116, 32, 97, 32, 99, 108, 105, 101, 110, 116]), .lit (.string [110, 111, 116, 32, 97, 32, 115, 101, 114, 118, 105, 99, 101]), .lit (.string [98, 121, 116, 101, 32, 111, 114, 100, 101, 114]), .lit (.string [112, 114, 105, 110, 99, 105, 112, 97, 108, 32, 117, 110, 107, 110, 111, 119, 110]), .lit (.string [112, 114, 105, 110, 99, 105, 112, 97, 108, 32, 110, 111, 116, 32, 117, 110, 105, 113, 117, 101]), .lit (.string [110, 111, 32, 107, 101, 121])]

/-- 'kerbsuitetop.TopChange': WHATEVER THE INPUT: true; the input reads as it did. -/
def topChangeSpec : ChangeSpec := { name := "topChange", fn := fun _ => fun
  | [d1, d2, d3, d4] => { results := [.lit (.bool true)], args := [d1, d2, d3, d4] }
  | _ => none }
def topChangeRow : OpenClaim := { program := "ytihnbghdddbimaagreatdoor", sum := "613f597bc0fa560df9d17bc7791f7b1d74521ddc2b5262ae9d7e9e6802a11712", func := "kerbsuite/kerbsuitetop.TopChange", spec := "topChange", inPlace := ["internal/bytealg.IndexByteString", "internal/bytealg.abigen_runtime_cmpstring", "internal/bytealg.IndexByte"], unfollowed := true, recurses := true, named := ["kerbsuite/kdcmessage.texts"], apart := false, laid := [("kerbsuite/kdcmessage.texts", laid_kerbsuite_kdcmessage_texts)] }
def TopChangeSaid : Prop := topChangeRow.holds Tryz.pinned (OpenSpec.ofChange topChangeSpec)

/-- ITS FALSE NEIGHBOUR: 'it returns false'. Refute it at one input. -/
def topChangeWrong : ChangeSpec := { name := "topChange", fn := fun _ => fun
  | [d1, d2, d3, d4] => { results := [.lit (.bool false)], args := [d1, d2, d3, d4] }
  | _ => none }
def TopChangeWrongFalsely : Prop := topChangeRow.holds Tryz.pinned (OpenSpec.ofChange topChangeWrong)

/- THE SECOND FORM. 'bulk': how many values and letters a reading holds, each counted each time it is reached (what is shared counts as often as it is met; a slice's spare places count too). A statement '..UptoSaid' is the law's where the arguments, and the package variables that the reading takes, are together of bulk at most 1048576: NARROWER than '..Said'. Prove '..Said' where nothing that the law and all that it calls make is longer than what came in: it says more and counts as full. Else prove '..UptoSaid'. A law counts once. -/
mutual
def uptoBulk {H : Type} : DataW H → Nat
  | .lit (.string bytes) => bytes.length + 1
  | .lit _ => 1
  | .nil => 1
  | .ptr d => uptoBulk d + 1
  | .slice elems spare => uptoBulkAll elems + uptoBulkAll spare + 1
  | .agg parts => uptoBulkAll parts + 1
  | .iface _ d => uptoBulk d + 1
  | .map entries => uptoBulkEntries entries + 1
  | .held _ => 1
def uptoBulkAll {H : Type} : List (DataW H) → Nat
  | [] => 0
  | d :: r => uptoBulk d + uptoBulkAll r
def uptoBulkEntries {H : Type} : List (Lit × DataW H) → Nat
  | [] => 0
  | x :: r => uptoBulkEntry x + uptoBulkEntries r
def uptoBulkEntry {H : Type} : Lit × DataW H → Nat
  | (.string bytes, d) => bytes.length + uptoBulk d + 1
  | (_, d) => uptoBulk d + 1
 end
def uptoSmall : (H : Type) → List (DataW H) → Bool := fun _ ds => decide (uptoBulkAll ds ≤ 1048576)
def OpenSpec.upto (s : _root_.Go.ChangeSpec) : _root_.Go.OpenSpec := { _root_.Go.OpenSpec.ofChange s with cond := some uptoSmall }

/-- 'kerbsuitetop.TopChange', WHERE WHAT IT READS IS OF BULK AT MOST 1048576: true; the input reads as it did. -/
def topChangeUptoRow : OpenClaim := { program := "ytihnbghdddbimaagreatdoor", sum := "613f597bc0fa560df9d17bc7791f7b1d74521ddc2b5262ae9d7e9e6802a11712", func := "kerbsuite/kerbsuitetop.TopChange", spec := "topChange", inPlace := ["internal/bytealg.IndexByteString", "internal/bytealg.abigen_runtime_cmpstring", "internal/bytealg.IndexByte"], unfollowed := true, recurses := true, named := ["kerbsuite/kdcmessage.texts"], apart := false, laid := [("kerbsuite/kdcmessage.texts", laid_kerbsuite_kdcmessage_texts)], narrowed := true }
def TopChangeUptoSaid : Prop := topChangeUptoRow.holds Tryz.pinned (OpenSpec.upto topChangeSpec)

end Rows
end Go.Proofs.YtihnbghdddbimaaGreatDoor
