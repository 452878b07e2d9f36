/-
  No cell of these rows narrows 'for every input' (looked for: loops, veiled, ifaces, maps, wideKeys, modest, calm, conditions, laid).
  DERIVED. THE GIVEN ROWS OF THIS SEAT. 12 by the template 'for every input the law returns true; each argument reads behind the call as it read before'; 0 by the template 'total and deterministic' (their statements: YtifacpjiieoalaaTotals.lean).
  GIVEN WITH THE SEED: the statements are not yours to turn. If you find one false, say at which input.
  Laid BY PROGRAM, IN A SANDBOX (cutbox-rows.mjs): the forced cells as the released guide's own fill.sh prints them over the translation 402f684a3d5094ce… (all of the seat's roots in one cut). By AI agents, Wed Nov 11 2026. No macro, syntax, notation, axiom, sorry.
-/
import Derived.Test.YtifacpjiieoalaaChecked
import GoSem.Claim
import GoSem.ClaimJoined
import GoSem.ClaimMapViews
import Derived.JoinedTies
import Derived.KernelRfl
namespace Go.Proofs.Ytifacpjiieoalaa
/- THE CELL 'sum', in the pinned program and in every row, IS THE sha256 OF THE DUMP (.gsa) THAT YtifacpjiieoalaaProg.lean LOADS. Nothing in Lean hashes anything: it is a label: what it is worth is what the hold of that sum in a sandbox is worth. -/
noncomputable def Try.pinned : Pinned := { name := "ytifacpjiieoalaa", sum := "402f684a3d5094ce8af8c4405e54b7d05130de4f6dd85b58ae0ea6129837188c", checked := Try.checked }
namespace Rows
def none {H : Type} : Left H := { results := [], args := [] }

/-- 'kerbsuitelaw8.HeaderPuts': WHATEVER THE INPUT: true; the input reads as it did. -/
def headerPutsSpec : ChangeSpec := { name := "headerPuts", fn := fun _ => fun
  | [d1, d2, d3, d4] => { results := [.lit (.bool true)], args := [d1, d2, d3, d4] }
  | _ => none }
def headerPutsRow : OpenClaim := { program := "ytifacpjiieoalaa", sum := "402f684a3d5094ce8af8c4405e54b7d05130de4f6dd85b58ae0ea6129837188c", func := "kerbsuite/kerbsuitelaw8.HeaderPuts", spec := "headerPuts", apart := false }
def HeaderPutsSaid : Prop := headerPutsRow.holds Try.pinned (OpenSpec.ofChange headerPutsSpec)

/-- ITS FALSE NEIGHBOUR: 'it returns false'. Refute it at one input. -/
def headerPutsWrong : ChangeSpec := { name := "headerPuts", fn := fun _ => fun
  | [d1, d2, d3, d4] => { results := [.lit (.bool false)], args := [d1, d2, d3, d4] }
  | _ => none }
def HeaderPutsWrongFalsely : Prop := headerPutsRow.holds Try.pinned (OpenSpec.ofChange headerPutsWrong)

/-- 'kerbsuitelaw8.HeaderReads': WHATEVER THE INPUT: true; the input reads as it did. -/
def headerReadsSpec : ChangeSpec := { name := "headerReads", fn := fun _ => fun
  | [d1, d2, d3] => { results := [.lit (.bool true)], args := [d1, d2, d3] }
  | _ => none }
def headerReadsRow : OpenClaim := { program := "ytifacpjiieoalaa", sum := "402f684a3d5094ce8af8c4405e54b7d05130de4f6dd85b58ae0ea6129837188c", func := "kerbsuite/kerbsuitelaw8.HeaderReads", spec := "headerReads", apart := false }
def HeaderReadsSaid : Prop := headerReadsRow.holds Try.pinned (OpenSpec.ofChange headerReadsSpec)

/-- ITS FALSE NEIGHBOUR: 'it returns false'. Refute it at one input. -/
def headerReadsWrong : ChangeSpec := { name := "headerReads", fn := fun _ => fun
  | [d1, d2, d3] => { results := [.lit (.bool false)], args := [d1, d2, d3] }
  | _ => none }
def HeaderReadsWrongFalsely : Prop := headerReadsRow.holds Try.pinned (OpenSpec.ofChange headerReadsWrong)

/-- 'kerbsuitelaw8.HeaderIs': WHATEVER THE INPUT: true; the input reads as it did. -/
def headerIsSpec : ChangeSpec := { name := "headerIs", fn := fun _ => fun
  | [d1, d2, d3, d4] => { results := [.lit (.bool true)], args := [d1, d2, d3, d4] }
  | _ => none }
def headerIsRow : OpenClaim := { program := "ytifacpjiieoalaa", sum := "402f684a3d5094ce8af8c4405e54b7d05130de4f6dd85b58ae0ea6129837188c", func := "kerbsuite/kerbsuitelaw8.HeaderIs", spec := "headerIs", apart := false }
def HeaderIsSaid : Prop := headerIsRow.holds Try.pinned (OpenSpec.ofChange headerIsSpec)

/-- ITS FALSE NEIGHBOUR: 'it returns false'. Refute it at one input. -/
def headerIsWrong : ChangeSpec := { name := "headerIs", fn := fun _ => fun
  | [d1, d2, d3, d4] => { results := [.lit (.bool false)], args := [d1, d2, d3, d4] }
  | _ => none }
def HeaderIsWrongFalsely : Prop := headerIsRow.holds Try.pinned (OpenSpec.ofChange headerIsWrong)

/-- 'kerbsuitelaw5.FieldPads': WHATEVER THE INPUT: true; the input reads as it did. -/
def fieldPadsSpec : ChangeSpec := { name := "fieldPads", fn := fun _ => fun
  | [d] => { results := [.lit (.bool true)], args := [d] }
  | _ => none }
def fieldPadsRow : OpenClaim := { program := "ytifacpjiieoalaa", sum := "402f684a3d5094ce8af8c4405e54b7d05130de4f6dd85b58ae0ea6129837188c", func := "kerbsuite/kerbsuitelaw5.FieldPads", spec := "fieldPads", inPlace := ["internal/bytealg.IndexByte"], apart := false }
def FieldPadsSaid : Prop := fieldPadsRow.holds Try.pinned (OpenSpec.ofChange fieldPadsSpec)

/-- ITS FALSE NEIGHBOUR: 'it returns false'. Refute it at one input. -/
def fieldPadsWrong : ChangeSpec := { name := "fieldPads", fn := fun _ => fun
  | [d] => { results := [.lit (.bool false)], args := [d] }
  | _ => none }
def FieldPadsWrongFalsely : Prop := fieldPadsRow.holds Try.pinned (OpenSpec.ofChange fieldPadsWrong)

/-- 'kerbsuitelaw5.FieldWrites': WHATEVER THE INPUT: true; the input reads as it did. -/
def fieldWritesSpec : ChangeSpec := { name := "fieldWrites", fn := fun _ => fun
  | [d1, d2, d3, d4, d5] => { results := [.lit (.bool true)], args := [d1, d2, d3, d4, d5] }
  | _ => none }
def fieldWritesRow : OpenClaim := { program := "ytifacpjiieoalaa", sum := "402f684a3d5094ce8af8c4405e54b7d05130de4f6dd85b58ae0ea6129837188c", func := "kerbsuite/kerbsuitelaw5.FieldWrites", spec := "fieldWrites", inPlace := ["internal/bytealg.IndexByte"], apart := false }
def FieldWritesSaid : Prop := fieldWritesRow.holds Try.pinned (OpenSpec.ofChange fieldWritesSpec)

/-- ITS FALSE NEIGHBOUR: 'it returns false'. Refute it at one input. -/
def fieldWritesWrong : ChangeSpec := { name := "fieldWrites", fn := fun _ => fun
  | [d1, d2, d3, d4, d5] => { results := [.lit (.bool false)], args := [d1, d2, d3, d4, d5] }
  | _ => none }
def FieldWritesWrongFalsely : Prop := fieldWritesRow.holds Try.pinned (OpenSpec.ofChange fieldWritesWrong)

/-- 'kerbsuitelaw5.FieldOrder': WHATEVER THE INPUT: true; the input reads as it did. -/
def fieldOrderSpec : ChangeSpec := { name := "fieldOrder", fn := fun _ => fun
  | [d] => { results := [.lit (.bool true)], args := [d] }
  | _ => none }
def fieldOrderRow : OpenClaim := { program := "ytifacpjiieoalaa", sum := "402f684a3d5094ce8af8c4405e54b7d05130de4f6dd85b58ae0ea6129837188c", func := "kerbsuite/kerbsuitelaw5.FieldOrder", spec := "fieldOrder", inPlace := ["internal/bytealg.IndexByte"], apart := false }
def FieldOrderSaid : Prop := fieldOrderRow.holds Try.pinned (OpenSpec.ofChange fieldOrderSpec)

/-- ITS FALSE NEIGHBOUR: 'it returns false'. Refute it at one input. -/
def fieldOrderWrong : ChangeSpec := { name := "fieldOrder", fn := fun _ => fun
  | [d] => { results := [.lit (.bool false)], args := [d] }
  | _ => none }
def FieldOrderWrongFalsely : Prop := fieldOrderRow.holds Try.pinned (OpenSpec.ofChange fieldOrderWrong)

/-- 'kerbsuitelaw5.FieldTexts': WHATEVER THE INPUT: true; the input reads as it did. -/
def fieldTextsSpec : ChangeSpec := { name := "fieldTexts", fn := fun _ => fun
  | [d1, d2, d3, d4, d5] => { results := [.lit (.bool true)], args := [d1, d2, d3, d4, d5] }
  | _ => none }
def fieldTextsRow : OpenClaim := { program := "ytifacpjiieoalaa", sum := "402f684a3d5094ce8af8c4405e54b7d05130de4f6dd85b58ae0ea6129837188c", func := "kerbsuite/kerbsuitelaw5.FieldTexts", spec := "fieldTexts", inPlace := ["internal/bytealg.IndexByte", "internal/bytealg.IndexByteString"], apart := false }
def FieldTextsSaid : Prop := fieldTextsRow.holds Try.pinned (OpenSpec.ofChange fieldTextsSpec)

/-- ITS FALSE NEIGHBOUR: 'it returns false'. Refute it at one input. -/
def fieldTextsWrong : ChangeSpec := { name := "fieldTexts", fn := fun _ => fun
  | [d1, d2, d3, d4, d5] => { results := [.lit (.bool false)], args := [d1, d2, d3, d4, d5] }
  | _ => none }
def FieldTextsWrongFalsely : Prop := fieldTextsRow.holds Try.pinned (OpenSpec.ofChange fieldTextsWrong)

/-- 'kerbsuitelaw5.FieldReads': WHATEVER THE INPUT: true; the input reads as it did. -/
def fieldReadsSpec : ChangeSpec := { name := "fieldReads", fn := fun _ => fun
  | [d1, d2, d3, d4, d5, d6] => { results := [.lit (.bool true)], args := [d1, d2, d3, d4, d5, d6] }
  | _ => none }
def fieldReadsRow : OpenClaim := { program := "ytifacpjiieoalaa", sum := "402f684a3d5094ce8af8c4405e54b7d05130de4f6dd85b58ae0ea6129837188c", func := "kerbsuite/kerbsuitelaw5.FieldReads", spec := "fieldReads", inPlace := ["internal/bytealg.IndexByte"], apart := false }
def FieldReadsSaid : Prop := fieldReadsRow.holds Try.pinned (OpenSpec.ofChange fieldReadsSpec)

/-- ITS FALSE NEIGHBOUR: 'it returns false'. Refute it at one input. -/
def fieldReadsWrong : ChangeSpec := { name := "fieldReads", fn := fun _ => fun
  | [d1, d2, d3, d4, d5, d6] => { results := [.lit (.bool false)], args := [d1, d2, d3, d4, d5, d6] }
  | _ => none }
def FieldReadsWrongFalsely : Prop := fieldReadsRow.holds Try.pinned (OpenSpec.ofChange fieldReadsWrong)

/-- 'kerbsuitelaw5.FieldTrip': WHATEVER THE INPUT: true; the input reads as it did. -/
def fieldTripSpec : ChangeSpec := { name := "fieldTrip", fn := fun _ => fun
  | [d1, d2, d3, d4, d5, d6, d7] => { results := [.lit (.bool true)], args := [d1, d2, d3, d4, d5, d6, d7] }
  | _ => none }
def fieldTripRow : OpenClaim := { program := "ytifacpjiieoalaa", sum := "402f684a3d5094ce8af8c4405e54b7d05130de4f6dd85b58ae0ea6129837188c", func := "kerbsuite/kerbsuitelaw5.FieldTrip", spec := "fieldTrip", inPlace := ["internal/bytealg.IndexByte", "internal/bytealg.IndexByteString"], apart := false }
def FieldTripSaid : Prop := fieldTripRow.holds Try.pinned (OpenSpec.ofChange fieldTripSpec)

/-- ITS FALSE NEIGHBOUR: 'it returns false'. Refute it at one input. -/
def fieldTripWrong : ChangeSpec := { name := "fieldTrip", fn := fun _ => fun
  | [d1, d2, d3, d4, d5, d6, d7] => { results := [.lit (.bool false)], args := [d1, d2, d3, d4, d5, d6, d7] }
  | _ => none }
def FieldTripWrongFalsely : Prop := fieldTripRow.holds Try.pinned (OpenSpec.ofChange fieldTripWrong)

/-- 'kerbsuitelaw1.PrincipalValid': WHATEVER THE INPUT: true; the input reads as it did. -/
def principalValidSpec : ChangeSpec := { name := "principalValid", fn := fun _ => fun
  | [d1, d2, d3, d4, d5] => { results := [.lit (.bool true)], args := [d1, d2, d3, d4, d5] }
  | _ => none }
def principalValidRow : OpenClaim := { program := "ytifacpjiieoalaa", sum := "402f684a3d5094ce8af8c4405e54b7d05130de4f6dd85b58ae0ea6129837188c", func := "kerbsuite/kerbsuitelaw1.PrincipalValid", spec := "principalValid", inPlace := ["internal/bytealg.IndexByteString", "internal/bytealg.IndexString"], named := ["internal/bytealg.MaxLen"], apart := false }
def PrincipalValidSaid : Prop := principalValidRow.holds Try.pinned (OpenSpec.ofChange principalValidSpec)

/-- ITS FALSE NEIGHBOUR: 'it returns false'. Refute it at one input. -/
def principalValidWrong : ChangeSpec := { name := "principalValid", fn := fun _ => fun
  | [d1, d2, d3, d4, d5] => { results := [.lit (.bool false)], args := [d1, d2, d3, d4, d5] }
  | _ => none }
def PrincipalValidWrongFalsely : Prop := principalValidRow.holds Try.pinned (OpenSpec.ofChange principalValidWrong)

/-- 'kerbsuitelaw1.PrincipalParses': WHATEVER THE INPUT: true; the input reads as it did. -/
def principalParsesSpec : ChangeSpec := { name := "principalParses", fn := fun _ => fun
  | [d1, d2, d3] => { results := [.lit (.bool true)], args := [d1, d2, d3] }
  | _ => none }
def principalParsesRow : OpenClaim := { program := "ytifacpjiieoalaa", sum := "402f684a3d5094ce8af8c4405e54b7d05130de4f6dd85b58ae0ea6129837188c", func := "kerbsuite/kerbsuitelaw1.PrincipalParses", spec := "principalParses", inPlace := ["internal/bytealg.IndexByteString", "internal/bytealg.IndexString"], named := ["internal/bytealg.MaxLen"], apart := false }
def PrincipalParsesSaid : Prop := principalParsesRow.holds Try.pinned (OpenSpec.ofChange principalParsesSpec)

/-- ITS FALSE NEIGHBOUR: 'it returns false'. Refute it at one input. -/
def principalParsesWrong : ChangeSpec := { name := "principalParses", fn := fun _ => fun
  | [d1, d2, d3] => { results := [.lit (.bool false)], args := [d1, d2, d3] }
  | _ => none }
def PrincipalParsesWrongFalsely : Prop := principalParsesRow.holds Try.pinned (OpenSpec.ofChange principalParsesWrong)

/-- 'kerbsuitelaw1.PrincipalTgs': WHATEVER THE INPUT: true; the input reads as it did. -/
def principalTgsSpec : ChangeSpec := { name := "principalTgs", fn := fun _ => fun
  | [d1, d2, d3] => { results := [.lit (.bool true)], args := [d1, d2, d3] }
  | _ => none }
def principalTgsRow : OpenClaim := { program := "ytifacpjiieoalaa", sum := "402f684a3d5094ce8af8c4405e54b7d05130de4f6dd85b58ae0ea6129837188c", func := "kerbsuite/kerbsuitelaw1.PrincipalTgs", spec := "principalTgs", inPlace := ["internal/bytealg.IndexByteString", "internal/bytealg.IndexString"], named := ["internal/bytealg.MaxLen"], apart := false }
def PrincipalTgsSaid : Prop := principalTgsRow.holds Try.pinned (OpenSpec.ofChange principalTgsSpec)

/-- ITS FALSE NEIGHBOUR: 'it returns false'. Refute it at one input. -/
def principalTgsWrong : ChangeSpec := { name := "principalTgs", fn := fun _ => fun
  | [d1, d2, d3] => { results := [.lit (.bool false)], args := [d1, d2, d3] }
  | _ => none }
def PrincipalTgsWrongFalsely : Prop := principalTgsRow.holds Try.pinned (OpenSpec.ofChange principalTgsWrong)

/- THE SECOND FORM. 'bulk': how many values and letters a reading holds, each counted each time it is reached (what is shared counts as often as it is met; a slice's spare places count too). A statement '..UptoSaid' is the law's where the arguments, and the package variables that the reading takes, are together of bulk at most 1048576: NARROWER than '..Said'. Prove '..Said' where nothing that the law and all that it calls make is longer than what came in: it says more and counts as full. Else prove '..UptoSaid'. A law counts once. -/
mutual
def uptoBulk {H : Type} : DataW H → Nat
  | .lit (.string bytes) => bytes.length + 1
  | .lit _ => 1
  | .nil => 1
  | .ptr d => uptoBulk d + 1
  | .slice elems spare => uptoBulkAll elems + uptoBulkAll spare + 1
  | .agg parts => uptoBulkAll parts + 1
  | .iface _ d => uptoBulk d + 1
  | .map entries => uptoBulkEntries entries + 1
  | .held _ => 1
def uptoBulkAll {H : Type} : List (DataW H) → Nat
  | [] => 0
  | d :: r => uptoBulk d + uptoBulkAll r
def uptoBulkEntries {H : Type} : List (Lit × DataW H) → Nat
  | [] => 0
  | x :: r => uptoBulkEntry x + uptoBulkEntries r
def uptoBulkEntry {H : Type} : Lit × DataW H → Nat
  | (.string bytes, d) => bytes.length + uptoBulk d + 1
  | (_, d) => uptoBulk d + 1
 end
def uptoSmall : (H : Type) → List (DataW H) → Bool := fun _ ds => decide (uptoBulkAll ds ≤ 1048576)
def OpenSpec.upto (s : _root_.Go.ChangeSpec) : _root_.Go.OpenSpec := { _root_.Go.OpenSpec.ofChange s with cond := some uptoSmall }

/-- 'kerbsuitelaw8.HeaderPuts', WHERE WHAT IT READS IS OF BULK AT MOST 1048576: true; the input reads as it did. -/
def headerPutsUptoRow : OpenClaim := { program := "ytifacpjiieoalaa", sum := "402f684a3d5094ce8af8c4405e54b7d05130de4f6dd85b58ae0ea6129837188c", func := "kerbsuite/kerbsuitelaw8.HeaderPuts", spec := "headerPuts", apart := false, narrowed := true }
def HeaderPutsUptoSaid : Prop := headerPutsUptoRow.holds Try.pinned (OpenSpec.upto headerPutsSpec)

/-- 'kerbsuitelaw8.HeaderReads', WHERE WHAT IT READS IS OF BULK AT MOST 1048576: true; the input reads as it did. -/
def headerReadsUptoRow : OpenClaim := { program := "ytifacpjiieoalaa", sum := "402f684a3d5094ce8af8c4405e54b7d05130de4f6dd85b58ae0ea6129837188c", func := "kerbsuite/kerbsuitelaw8.HeaderReads", spec := "headerReads", apart := false, narrowed := true }
def HeaderReadsUptoSaid : Prop := headerReadsUptoRow.holds Try.pinned (OpenSpec.upto headerReadsSpec)

/-- 'kerbsuitelaw8.HeaderIs', WHERE WHAT IT READS IS OF BULK AT MOST 1048576: true; the input reads as it did. -/
def headerIsUptoRow : OpenClaim := { program := "ytifacpjiieoalaa", sum := "402f684a3d5094ce8af8c4405e54b7d05130de4f6dd85b58ae0ea6129837188c", func := "kerbsuite/kerbsuitelaw8.HeaderIs", spec := "headerIs", apart := false, narrowed := true }
def HeaderIsUptoSaid : Prop := headerIsUptoRow.holds Try.pinned (OpenSpec.upto headerIsSpec)

/-- 'kerbsuitelaw5.FieldPads', WHERE WHAT IT READS IS OF BULK AT MOST 1048576: true; the input reads as it did. -/
def fieldPadsUptoRow : OpenClaim := { program := "ytifacpjiieoalaa", sum := "402f684a3d5094ce8af8c4405e54b7d05130de4f6dd85b58ae0ea6129837188c", func := "kerbsuite/kerbsuitelaw5.FieldPads", spec := "fieldPads", inPlace := ["internal/bytealg.IndexByte"], apart := false, narrowed := true }
def FieldPadsUptoSaid : Prop := fieldPadsUptoRow.holds Try.pinned (OpenSpec.upto fieldPadsSpec)

/-- 'kerbsuitelaw5.FieldWrites', WHERE WHAT IT READS IS OF BULK AT MOST 1048576: true; the input reads as it did. -/
def fieldWritesUptoRow : OpenClaim := { program := "ytifacpjiieoalaa", sum := "402f684a3d5094ce8af8c4405e54b7d05130de4f6dd85b58ae0ea6129837188c", func := "kerbsuite/kerbsuitelaw5.FieldWrites", spec := "fieldWrites", inPlace := ["internal/bytealg.IndexByte"], apart := false, narrowed := true }
def FieldWritesUptoSaid : Prop := fieldWritesUptoRow.holds Try.pinned (OpenSpec.upto fieldWritesSpec)

/-- 'kerbsuitelaw5.FieldOrder', WHERE WHAT IT READS IS OF BULK AT MOST 1048576: true; the input reads as it did. -/
def fieldOrderUptoRow : OpenClaim := { program := "ytifacpjiieoalaa", sum := "402f684a3d5094ce8af8c4405e54b7d05130de4f6dd85b58ae0ea6129837188c", func := "kerbsuite/kerbsuitelaw5.FieldOrder", spec := "fieldOrder", inPlace := ["internal/bytealg.IndexByte"], apart := false, narrowed := true }
def FieldOrderUptoSaid : Prop := fieldOrderUptoRow.holds Try.pinned (OpenSpec.upto fieldOrderSpec)

/-- 'kerbsuitelaw5.FieldTexts', WHERE WHAT IT READS IS OF BULK AT MOST 1048576: true; the input reads as it did. -/
def fieldTextsUptoRow : OpenClaim := { program := "ytifacpjiieoalaa", sum := "402f684a3d5094ce8af8c4405e54b7d05130de4f6dd85b58ae0ea6129837188c", func := "kerbsuite/kerbsuitelaw5.FieldTexts", spec := "fieldTexts", inPlace := ["internal/bytealg.IndexByte", "internal/bytealg.IndexByteString"], apart := false, narrowed := true }
def FieldTextsUptoSaid : Prop := fieldTextsUptoRow.holds Try.pinned (OpenSpec.upto fieldTextsSpec)

/-- 'kerbsuitelaw5.FieldReads', WHERE WHAT IT READS IS OF BULK AT MOST 1048576: true; the input reads as it did. -/
def fieldReadsUptoRow : OpenClaim := { program := "ytifacpjiieoalaa", sum := "402f684a3d5094ce8af8c4405e54b7d05130de4f6dd85b58ae0ea6129837188c", func := "kerbsuite/kerbsuitelaw5.FieldReads", spec := "fieldReads", inPlace := ["internal/bytealg.IndexByte"], apart := false, narrowed := true }
def FieldReadsUptoSaid : Prop := fieldReadsUptoRow.holds Try.pinned (OpenSpec.upto fieldReadsSpec)

/-- 'kerbsuitelaw5.FieldTrip', WHERE WHAT IT READS IS OF BULK AT MOST 1048576: true; the input reads as it did. -/
def fieldTripUptoRow : OpenClaim := { program := "ytifacpjiieoalaa", sum := "402f684a3d5094ce8af8c4405e54b7d05130de4f6dd85b58ae0ea6129837188c", func := "kerbsuite/kerbsuitelaw5.FieldTrip", spec := "fieldTrip", inPlace := ["internal/bytealg.IndexByte", "internal/bytealg.IndexByteString"], apart := false, narrowed := true }
def FieldTripUptoSaid : Prop := fieldTripUptoRow.holds Try.pinned (OpenSpec.upto fieldTripSpec)

/-- 'kerbsuitelaw1.PrincipalValid', WHERE WHAT IT READS IS OF BULK AT MOST 1048576: true; the input reads as it did. -/
def principalValidUptoRow : OpenClaim := { program := "ytifacpjiieoalaa", sum := "402f684a3d5094ce8af8c4405e54b7d05130de4f6dd85b58ae0ea6129837188c", func := "kerbsuite/kerbsuitelaw1.PrincipalValid", spec := "principalValid", inPlace := ["internal/bytealg.IndexByteString", "internal/bytealg.IndexString"], named := ["internal/bytealg.MaxLen"], apart := false, narrowed := true }
def PrincipalValidUptoSaid : Prop := principalValidUptoRow.holds Try.pinned (OpenSpec.upto principalValidSpec)

/-- 'kerbsuitelaw1.PrincipalParses', WHERE WHAT IT READS IS OF BULK AT MOST 1048576: true; the input reads as it did. -/
def principalParsesUptoRow : OpenClaim := { program := "ytifacpjiieoalaa", sum := "402f684a3d5094ce8af8c4405e54b7d05130de4f6dd85b58ae0ea6129837188c", func := "kerbsuite/kerbsuitelaw1.PrincipalParses", spec := "principalParses", inPlace := ["internal/bytealg.IndexByteString", "internal/bytealg.IndexString"], named := ["internal/bytealg.MaxLen"], apart := false, narrowed := true }
def PrincipalParsesUptoSaid : Prop := principalParsesUptoRow.holds Try.pinned (OpenSpec.upto principalParsesSpec)

/-- 'kerbsuitelaw1.PrincipalTgs', WHERE WHAT IT READS IS OF BULK AT MOST 1048576: true; the input reads as it did. -/
def principalTgsUptoRow : OpenClaim := { program := "ytifacpjiieoalaa", sum := "402f684a3d5094ce8af8c4405e54b7d05130de4f6dd85b58ae0ea6129837188c", func := "kerbsuite/kerbsuitelaw1.PrincipalTgs", spec := "principalTgs", inPlace := ["internal/bytealg.IndexByteString", "internal/bytealg.IndexString"], named := ["internal/bytealg.MaxLen"], apart := false, narrowed := true }
def PrincipalTgsUptoSaid : Prop := principalTgsUptoRow.holds Try.pinned (OpenSpec.upto principalTgsSpec)

end Rows
end Go.Proofs.Ytifacpjiieoalaa
