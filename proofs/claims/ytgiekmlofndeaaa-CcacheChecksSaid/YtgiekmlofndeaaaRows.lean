/-
  No cell of these rows narrows 'for every input' (looked for: loops, veiled, ifaces, maps, wideKeys, modest, calm, conditions, laid).
  DERIVED. THE GIVEN ROWS OF THIS SEAT. 2 by the template 'for every input the law returns true; each argument reads behind the call as it read before'; 0 by the template 'total and deterministic' (their statements: YtgiekmlofndeaaaTotals.lean).
  GIVEN WITH THE SEED: the statements are not yours to turn. If you find one false, say at which input.
  Laid BY PROGRAM, IN A SANDBOX (cutbox-rows.mjs): the forced cells as the released guide's own fill.sh prints them over the translation 900cc2e3fe729909… (all of the seat's roots in one cut). By AI agents, Wed Nov 11 2026. No macro, syntax, notation, axiom, sorry.
-/
import Derived.Test.YtgiekmlofndeaaaChecked
import GoSem.Claim
import GoSem.ClaimJoined
import GoSem.ClaimMapViews
import Derived.JoinedTies
import Derived.KernelRfl
namespace Go.Proofs.Ytgiekmlofndeaaa
/- THE CELL 'sum', in the pinned program and in every row, IS THE sha256 OF THE DUMP (.gsa) THAT YtgiekmlofndeaaaProg.lean LOADS. Nothing in Lean hashes anything: it is a label: what it is worth is what the hold of that sum in a sandbox is worth. -/
noncomputable def Try.pinned : Pinned := { name := "ytgiekmlofndeaaa", sum := "900cc2e3fe7299093461a0ee1624ef7bc2fafad31badfa4140b3b5b50788b407", checked := Try.checked }
namespace Rows
def none {H : Type} : Left H := { results := [], args := [] }

/-- 'kerbsuitelaw15.CcacheChecks': WHATEVER THE INPUT: true; the input reads as it did. -/
def ccacheChecksSpec : ChangeSpec := { name := "ccacheChecks", fn := fun _ => fun
  | [d1, d2, d3, d4, d5, d6, d7] => { results := [.lit (.bool true)], args := [d1, d2, d3, d4, d5, d6, d7] }
  | _ => none }
def ccacheChecksRow : OpenClaim := { program := "ytgiekmlofndeaaa", sum := "900cc2e3fe7299093461a0ee1624ef7bc2fafad31badfa4140b3b5b50788b407", func := "kerbsuite/kerbsuitelaw15.CcacheChecks", spec := "ccacheChecks", inPlace := ["internal/bytealg.IndexByteString"], apart := false }
def CcacheChecksSaid : Prop := ccacheChecksRow.holds Try.pinned (OpenSpec.ofChange ccacheChecksSpec)

/-- ITS FALSE NEIGHBOUR: 'it returns false'. Refute it at one input. -/
def ccacheChecksWrong : ChangeSpec := { name := "ccacheChecks", fn := fun _ => fun
  | [d1, d2, d3, d4, d5, d6, d7] => { results := [.lit (.bool false)], args := [d1, d2, d3, d4, d5, d6, d7] }
  | _ => none }
def CcacheChecksWrongFalsely : Prop := ccacheChecksRow.holds Try.pinned (OpenSpec.ofChange ccacheChecksWrong)

/-- 'kerbsuitelaw10.AppDecodes': WHATEVER THE INPUT: true; the input reads as it did. -/
def appDecodesSpec : ChangeSpec := { name := "appDecodes", fn := fun _ => fun
  | [d1, d2, d3, d4, d5, d6, d7] => { results := [.lit (.bool true)], args := [d1, d2, d3, d4, d5, d6, d7] }
  | _ => none }
def appDecodesRow : OpenClaim := { program := "ytgiekmlofndeaaa", sum := "900cc2e3fe7299093461a0ee1624ef7bc2fafad31badfa4140b3b5b50788b407", func := "kerbsuite/kerbsuitelaw10.AppDecodes", spec := "appDecodes", inPlace := ["internal/bytealg.IndexByteString", "internal/bytealg.IndexByte"], apart := false }
def AppDecodesSaid : Prop := appDecodesRow.holds Try.pinned (OpenSpec.ofChange appDecodesSpec)

/-- ITS FALSE NEIGHBOUR: 'it returns false'. Refute it at one input. -/
def appDecodesWrong : ChangeSpec := { name := "appDecodes", fn := fun _ => fun
  | [d1, d2, d3, d4, d5, d6, d7] => { results := [.lit (.bool false)], args := [d1, d2, d3, d4, d5, d6, d7] }
  | _ => none }
def AppDecodesWrongFalsely : Prop := appDecodesRow.holds Try.pinned (OpenSpec.ofChange appDecodesWrong)

/- THE SECOND FORM. 'bulk': how many values and letters a reading holds, each counted each time it is reached (what is shared counts as often as it is met; a slice's spare places count too). A statement '..UptoSaid' is the law's where the arguments, and the package variables that the reading takes, are together of bulk at most 1048576: NARROWER than '..Said'. Prove '..Said' where nothing that the law and all that it calls make is longer than what came in: it says more and counts as full. Else prove '..UptoSaid'. A law counts once. -/
mutual
def uptoBulk {H : Type} : DataW H → Nat
  | .lit (.string bytes) => bytes.length + 1
  | .lit _ => 1
  | .nil => 1
  | .ptr d => uptoBulk d + 1
  | .slice elems spare => uptoBulkAll elems + uptoBulkAll spare + 1
  | .agg parts => uptoBulkAll parts + 1
  | .iface _ d => uptoBulk d + 1
  | .map entries => uptoBulkEntries entries + 1
  | .held _ => 1
def uptoBulkAll {H : Type} : List (DataW H) → Nat
  | [] => 0
  | d :: r => uptoBulk d + uptoBulkAll r
def uptoBulkEntries {H : Type} : List (Lit × DataW H) → Nat
  | [] => 0
  | x :: r => uptoBulkEntry x + uptoBulkEntries r
def uptoBulkEntry {H : Type} : Lit × DataW H → Nat
  | (.string bytes, d) => bytes.length + uptoBulk d + 1
  | (_, d) => uptoBulk d + 1
 end
def uptoSmall : (H : Type) → List (DataW H) → Bool := fun _ ds => decide (uptoBulkAll ds ≤ 1048576)
def OpenSpec.upto (s : _root_.Go.ChangeSpec) : _root_.Go.OpenSpec := { _root_.Go.OpenSpec.ofChange s with cond := some uptoSmall }

/-- 'kerbsuitelaw15.CcacheChecks', WHERE WHAT IT READS IS OF BULK AT MOST 1048576: true; the input reads as it did. -/
def ccacheChecksUptoRow : OpenClaim := { program := "ytgiekmlofndeaaa", sum := "900cc2e3fe7299093461a0ee1624ef7bc2fafad31badfa4140b3b5b50788b407", func := "kerbsuite/kerbsuitelaw15.CcacheChecks", spec := "ccacheChecks", inPlace := ["internal/bytealg.IndexByteString"], apart := false, narrowed := true }
def CcacheChecksUptoSaid : Prop := ccacheChecksUptoRow.holds Try.pinned (OpenSpec.upto ccacheChecksSpec)

/-- 'kerbsuitelaw10.AppDecodes', WHERE WHAT IT READS IS OF BULK AT MOST 1048576: true; the input reads as it did. -/
def appDecodesUptoRow : OpenClaim := { program := "ytgiekmlofndeaaa", sum := "900cc2e3fe7299093461a0ee1624ef7bc2fafad31badfa4140b3b5b50788b407", func := "kerbsuite/kerbsuitelaw10.AppDecodes", spec := "appDecodes", inPlace := ["internal/bytealg.IndexByteString", "internal/bytealg.IndexByte"], apart := false, narrowed := true }
def AppDecodesUptoSaid : Prop := appDecodesUptoRow.holds Try.pinned (OpenSpec.upto appDecodesSpec)

end Rows
end Go.Proofs.Ytgiekmlofndeaaa
