/-
  No cell of these rows narrows 'for every input' (looked for: loops, veiled, ifaces, maps, wideKeys, modest, calm, conditions, laid).
  DERIVED. THE GIVEN ROWS OF THIS SEAT. 4 by the template 'for every input the law returns true; each argument reads behind the call as it read before'; 0 by the template 'total and deterministic' (their statements: YtkphcbogdmblnaaTotals.lean).
  GIVEN WITH THE SEED: the statements are not yours to turn. If you find one false, say at which input.
  Laid BY PROGRAM, IN A SANDBOX (cutbox-rows.mjs): the forced cells as the released guide's own fill.sh prints them over the translation 61016511b55d1cc7… (all of the seat's roots in one cut). By AI agents, Wed Nov 11 2026. No macro, syntax, notation, axiom, sorry.
-/
import Derived.Test.YtkphcbogdmblnaaChecked
import GoSem.Claim
import GoSem.ClaimJoined
import GoSem.ClaimMapViews
import Derived.JoinedTies
import Derived.KernelRfl
namespace Go.Proofs.Ytkphcbogdmblnaa
/- THE CELL 'sum', in the pinned program and in every row, IS THE sha256 OF THE DUMP (.gsa) THAT YtkphcbogdmblnaaProg.lean LOADS. Nothing in Lean hashes anything: it is a label: what it is worth is what the hold of that sum in a sandbox is worth. -/
noncomputable def Try.pinned : Pinned := { name := "ytkphcbogdmblnaa", sum := "61016511b55d1cc7ff30ddf305926626c29676e283b967b986bce3030f4227df", checked := Try.checked }
namespace Rows
def none {H : Type} : Left H := { results := [], args := [] }

/-- 'kerbsuitelaw21.ChannelOpens': WHATEVER THE INPUT: true; the input reads as it did. -/
def channelOpensSpec : ChangeSpec := { name := "channelOpens", fn := fun _ => fun
  | [d1, d2, d3, d4, d5, d6, d7, d8] => { results := [.lit (.bool true)], args := [d1, d2, d3, d4, d5, d6, d7, d8] }
  | _ => none }
def channelOpensRow : OpenClaim := { program := "ytkphcbogdmblnaa", sum := "61016511b55d1cc7ff30ddf305926626c29676e283b967b986bce3030f4227df", func := "kerbsuite/kerbsuitelaw21.ChannelOpens", spec := "channelOpens", apart := false }
def ChannelOpensSaid : Prop := channelOpensRow.holds Try.pinned (OpenSpec.ofChange channelOpensSpec)

/-- ITS FALSE NEIGHBOUR: 'it returns false'. Refute it at one input. -/
def channelOpensWrong : ChangeSpec := { name := "channelOpens", fn := fun _ => fun
  | [d1, d2, d3, d4, d5, d6, d7, d8] => { results := [.lit (.bool false)], args := [d1, d2, d3, d4, d5, d6, d7, d8] }
  | _ => none }
def ChannelOpensWrongFalsely : Prop := channelOpensRow.holds Try.pinned (OpenSpec.ofChange channelOpensWrong)

/-- 'kerbsuitelaw21.ChannelReads': WHATEVER THE INPUT: true; the input reads as it did. -/
def channelReadsSpec : ChangeSpec := { name := "channelReads", fn := fun _ => fun
  | [d1, d2, d3, d4] => { results := [.lit (.bool true)], args := [d1, d2, d3, d4] }
  | _ => none }
def channelReadsRow : OpenClaim := { program := "ytkphcbogdmblnaa", sum := "61016511b55d1cc7ff30ddf305926626c29676e283b967b986bce3030f4227df", func := "kerbsuite/kerbsuitelaw21.ChannelReads", spec := "channelReads", apart := false }
def ChannelReadsSaid : Prop := channelReadsRow.holds Try.pinned (OpenSpec.ofChange channelReadsSpec)

/-- ITS FALSE NEIGHBOUR: 'it returns false'. Refute it at one input. -/
def channelReadsWrong : ChangeSpec := { name := "channelReads", fn := fun _ => fun
  | [d1, d2, d3, d4] => { results := [.lit (.bool false)], args := [d1, d2, d3, d4] }
  | _ => none }
def ChannelReadsWrongFalsely : Prop := channelReadsRow.holds Try.pinned (OpenSpec.ofChange channelReadsWrong)

/-- 'kerbsuitelaw21.ChannelAny': WHATEVER THE INPUT: true; the input reads as it did. -/
def channelAnySpec : ChangeSpec := { name := "channelAny", fn := fun _ => fun
  | [d1, d2, d3, d4, d5, d6, d7, d8] => { results := [.lit (.bool true)], args := [d1, d2, d3, d4, d5, d6, d7, d8] }
  | _ => none }
def channelAnyRow : OpenClaim := { program := "ytkphcbogdmblnaa", sum := "61016511b55d1cc7ff30ddf305926626c29676e283b967b986bce3030f4227df", func := "kerbsuite/kerbsuitelaw21.ChannelAny", spec := "channelAny", apart := false }
def ChannelAnySaid : Prop := channelAnyRow.holds Try.pinned (OpenSpec.ofChange channelAnySpec)

/-- ITS FALSE NEIGHBOUR: 'it returns false'. Refute it at one input. -/
def channelAnyWrong : ChangeSpec := { name := "channelAny", fn := fun _ => fun
  | [d1, d2, d3, d4, d5, d6, d7, d8] => { results := [.lit (.bool false)], args := [d1, d2, d3, d4, d5, d6, d7, d8] }
  | _ => none }
def ChannelAnyWrongFalsely : Prop := channelAnyRow.holds Try.pinned (OpenSpec.ofChange channelAnyWrong)

/-- 'kerbsuitelaw21.ChannelOnce': WHATEVER THE INPUT: true; the input reads as it did. -/
def channelOnceSpec : ChangeSpec := { name := "channelOnce", fn := fun _ => fun
  | [d1, d2] => { results := [.lit (.bool true)], args := [d1, d2] }
  | _ => none }
def channelOnceRow : OpenClaim := { program := "ytkphcbogdmblnaa", sum := "61016511b55d1cc7ff30ddf305926626c29676e283b967b986bce3030f4227df", func := "kerbsuite/kerbsuitelaw21.ChannelOnce", spec := "channelOnce", apart := false }
def ChannelOnceSaid : Prop := channelOnceRow.holds Try.pinned (OpenSpec.ofChange channelOnceSpec)

/-- ITS FALSE NEIGHBOUR: 'it returns false'. Refute it at one input. -/
def channelOnceWrong : ChangeSpec := { name := "channelOnce", fn := fun _ => fun
  | [d1, d2] => { results := [.lit (.bool false)], args := [d1, d2] }
  | _ => none }
def ChannelOnceWrongFalsely : Prop := channelOnceRow.holds Try.pinned (OpenSpec.ofChange channelOnceWrong)

/- THE SECOND FORM. 'bulk': how many values and letters a reading holds, each counted each time it is reached (what is shared counts as often as it is met; a slice's spare places count too). A statement '..UptoSaid' is the law's where the arguments, and the package variables that the reading takes, are together of bulk at most 1048576: NARROWER than '..Said'. Prove '..Said' where nothing that the law and all that it calls make is longer than what came in: it says more and counts as full. Else prove '..UptoSaid'. A law counts once. -/
mutual
def uptoBulk {H : Type} : DataW H → Nat
  | .lit (.string bytes) => bytes.length + 1
  | .lit _ => 1
  | .nil => 1
  | .ptr d => uptoBulk d + 1
  | .slice elems spare => uptoBulkAll elems + uptoBulkAll spare + 1
  | .agg parts => uptoBulkAll parts + 1
  | .iface _ d => uptoBulk d + 1
  | .map entries => uptoBulkEntries entries + 1
  | .held _ => 1
def uptoBulkAll {H : Type} : List (DataW H) → Nat
  | [] => 0
  | d :: r => uptoBulk d + uptoBulkAll r
def uptoBulkEntries {H : Type} : List (Lit × DataW H) → Nat
  | [] => 0
  | x :: r => uptoBulkEntry x + uptoBulkEntries r
def uptoBulkEntry {H : Type} : Lit × DataW H → Nat
  | (.string bytes, d) => bytes.length + uptoBulk d + 1
  | (_, d) => uptoBulk d + 1
 end
def uptoSmall : (H : Type) → List (DataW H) → Bool := fun _ ds => decide (uptoBulkAll ds ≤ 1048576)
def OpenSpec.upto (s : _root_.Go.ChangeSpec) : _root_.Go.OpenSpec := { _root_.Go.OpenSpec.ofChange s with cond := some uptoSmall }

/-- 'kerbsuitelaw21.ChannelOpens', WHERE WHAT IT READS IS OF BULK AT MOST 1048576: true; the input reads as it did. -/
def channelOpensUptoRow : OpenClaim := { program := "ytkphcbogdmblnaa", sum := "61016511b55d1cc7ff30ddf305926626c29676e283b967b986bce3030f4227df", func := "kerbsuite/kerbsuitelaw21.ChannelOpens", spec := "channelOpens", apart := false, narrowed := true }
def ChannelOpensUptoSaid : Prop := channelOpensUptoRow.holds Try.pinned (OpenSpec.upto channelOpensSpec)

/-- 'kerbsuitelaw21.ChannelReads', WHERE WHAT IT READS IS OF BULK AT MOST 1048576: true; the input reads as it did. -/
def channelReadsUptoRow : OpenClaim := { program := "ytkphcbogdmblnaa", sum := "61016511b55d1cc7ff30ddf305926626c29676e283b967b986bce3030f4227df", func := "kerbsuite/kerbsuitelaw21.ChannelReads", spec := "channelReads", apart := false, narrowed := true }
def ChannelReadsUptoSaid : Prop := channelReadsUptoRow.holds Try.pinned (OpenSpec.upto channelReadsSpec)

/-- 'kerbsuitelaw21.ChannelAny', WHERE WHAT IT READS IS OF BULK AT MOST 1048576: true; the input reads as it did. -/
def channelAnyUptoRow : OpenClaim := { program := "ytkphcbogdmblnaa", sum := "61016511b55d1cc7ff30ddf305926626c29676e283b967b986bce3030f4227df", func := "kerbsuite/kerbsuitelaw21.ChannelAny", spec := "channelAny", apart := false, narrowed := true }
def ChannelAnyUptoSaid : Prop := channelAnyUptoRow.holds Try.pinned (OpenSpec.upto channelAnySpec)

/-- 'kerbsuitelaw21.ChannelOnce', WHERE WHAT IT READS IS OF BULK AT MOST 1048576: true; the input reads as it did. -/
def channelOnceUptoRow : OpenClaim := { program := "ytkphcbogdmblnaa", sum := "61016511b55d1cc7ff30ddf305926626c29676e283b967b986bce3030f4227df", func := "kerbsuite/kerbsuitelaw21.ChannelOnce", spec := "channelOnce", apart := false, narrowed := true }
def ChannelOnceUptoSaid : Prop := channelOnceUptoRow.holds Try.pinned (OpenSpec.upto channelOnceSpec)

end Rows
end Go.Proofs.Ytkphcbogdmblnaa
