/-
  No cell of these rows narrows 'for every input' (looked for: loops, veiled, ifaces, maps, wideKeys, modest, calm, conditions, laid).
  DERIVED. THE GIVEN ROWS OF THIS SEAT. 12 by the template 'for every input the law returns true; each argument reads behind the call as it read before'; 0 by the template 'total and deterministic' (their statements: YtjgiijcnhhnkkaaTotals.lean).
  GIVEN WITH THE SEED: the statements are not yours to turn. If you find one false, say at which input.
  Laid BY PROGRAM, IN A SANDBOX (cutbox-rows.mjs): the forced cells as the released guide's own fill.sh prints them over the translation 725169fddf7d7837… (all of the seat's roots in one cut). By AI agents, Wed Nov 11 2026. No macro, syntax, notation, axiom, sorry.
-/
import Derived.Test.YtjgiijcnhhnkkaaChecked
import GoSem.Claim
import GoSem.ClaimJoined
import GoSem.ClaimMapViews
import Derived.JoinedTies
import Derived.KernelRfl
namespace Go.Proofs.Ytjgiijcnhhnkkaa
/- THE CELL 'sum', in the pinned program and in every row, IS THE sha256 OF THE DUMP (.gsa) THAT YtjgiijcnhhnkkaaProg.lean LOADS. Nothing in Lean hashes anything: it is a label: what it is worth is what the hold of that sum in a sandbox is worth. -/
noncomputable def Try.pinned : Pinned := { name := "ytjgiijcnhhnkkaa", sum := "725169fddf7d783795aa2ba8e3a6e22b7cf87e6f78f101815dfbfb1e316dbbc2", checked := Try.checked }
namespace Rows
def none {H : Type} : Left H := { results := [], args := [] }

/-- 'kerbsuitelaw26.ConverterConverts': WHATEVER THE INPUT: true; the input reads as it did. -/
def converterConvertsSpec : ChangeSpec := { name := "converterConverts", fn := fun _ => fun
  | [d1, d2, d3, d4, d5, d6, d7] => { results := [.lit (.bool true)], args := [d1, d2, d3, d4, d5, d6, d7] }
  | _ => none }
def converterConvertsRow : OpenClaim := { program := "ytjgiijcnhhnkkaa", sum := "725169fddf7d783795aa2ba8e3a6e22b7cf87e6f78f101815dfbfb1e316dbbc2", func := "kerbsuite/kerbsuitelaw26.ConverterConverts", spec := "converterConverts", inPlace := ["internal/bytealg.IndexByteString"], apart := false }
def ConverterConvertsSaid : Prop := converterConvertsRow.holds Try.pinned (OpenSpec.ofChange converterConvertsSpec)

/-- ITS FALSE NEIGHBOUR: 'it returns false'. Refute it at one input. -/
def converterConvertsWrong : ChangeSpec := { name := "converterConverts", fn := fun _ => fun
  | [d1, d2, d3, d4, d5, d6, d7] => { results := [.lit (.bool false)], args := [d1, d2, d3, d4, d5, d6, d7] }
  | _ => none }
def ConverterConvertsWrongFalsely : Prop := converterConvertsRow.holds Try.pinned (OpenSpec.ofChange converterConvertsWrong)

/-- 'kerbsuitelaw7.AuthenticatorChecks': WHATEVER THE INPUT: true; the input reads as it did. -/
def authenticatorChecksSpec : ChangeSpec := { name := "authenticatorChecks", fn := fun _ => fun
  | [d1, d2, d3, d4, d5, d6] => { results := [.lit (.bool true)], args := [d1, d2, d3, d4, d5, d6] }
  | _ => none }
def authenticatorChecksRow : OpenClaim := { program := "ytjgiijcnhhnkkaa", sum := "725169fddf7d783795aa2ba8e3a6e22b7cf87e6f78f101815dfbfb1e316dbbc2", func := "kerbsuite/kerbsuitelaw7.AuthenticatorChecks", spec := "authenticatorChecks", inPlace := ["internal/bytealg.IndexByteString"], apart := false }
def AuthenticatorChecksSaid : Prop := authenticatorChecksRow.holds Try.pinned (OpenSpec.ofChange authenticatorChecksSpec)

/-- ITS FALSE NEIGHBOUR: 'it returns false'. Refute it at one input. -/
def authenticatorChecksWrong : ChangeSpec := { name := "authenticatorChecks", fn := fun _ => fun
  | [d1, d2, d3, d4, d5, d6] => { results := [.lit (.bool false)], args := [d1, d2, d3, d4, d5, d6] }
  | _ => none }
def AuthenticatorChecksWrongFalsely : Prop := authenticatorChecksRow.holds Try.pinned (OpenSpec.ofChange authenticatorChecksWrong)

/-- 'kerbsuitelaw5.FieldTexts': WHATEVER THE INPUT: true; the input reads as it did. -/
def fieldTextsSpec : ChangeSpec := { name := "fieldTexts", fn := fun _ => fun
  | [d1, d2, d3, d4, d5] => { results := [.lit (.bool true)], args := [d1, d2, d3, d4, d5] }
  | _ => none }
def fieldTextsRow : OpenClaim := { program := "ytjgiijcnhhnkkaa", sum := "725169fddf7d783795aa2ba8e3a6e22b7cf87e6f78f101815dfbfb1e316dbbc2", func := "kerbsuite/kerbsuitelaw5.FieldTexts", spec := "fieldTexts", inPlace := ["internal/bytealg.IndexByte", "internal/bytealg.IndexByteString"], apart := false }
def FieldTextsSaid : Prop := fieldTextsRow.holds Try.pinned (OpenSpec.ofChange fieldTextsSpec)

/-- ITS FALSE NEIGHBOUR: 'it returns false'. Refute it at one input. -/
def fieldTextsWrong : ChangeSpec := { name := "fieldTexts", fn := fun _ => fun
  | [d1, d2, d3, d4, d5] => { results := [.lit (.bool false)], args := [d1, d2, d3, d4, d5] }
  | _ => none }
def FieldTextsWrongFalsely : Prop := fieldTextsRow.holds Try.pinned (OpenSpec.ofChange fieldTextsWrong)

/-- 'kerbsuitelaw6.TicketChecks': WHATEVER THE INPUT: true; the input reads as it did. -/
def ticketChecksSpec : ChangeSpec := { name := "ticketChecks", fn := fun _ => fun
  | [d1, d2, d3, d4, d5, d6] => { results := [.lit (.bool true)], args := [d1, d2, d3, d4, d5, d6] }
  | _ => none }
def ticketChecksRow : OpenClaim := { program := "ytjgiijcnhhnkkaa", sum := "725169fddf7d783795aa2ba8e3a6e22b7cf87e6f78f101815dfbfb1e316dbbc2", func := "kerbsuite/kerbsuitelaw6.TicketChecks", spec := "ticketChecks", inPlace := ["internal/bytealg.IndexByteString"], apart := false }
def TicketChecksSaid : Prop := ticketChecksRow.holds Try.pinned (OpenSpec.ofChange ticketChecksSpec)

/-- ITS FALSE NEIGHBOUR: 'it returns false'. Refute it at one input. -/
def ticketChecksWrong : ChangeSpec := { name := "ticketChecks", fn := fun _ => fun
  | [d1, d2, d3, d4, d5, d6] => { results := [.lit (.bool false)], args := [d1, d2, d3, d4, d5, d6] }
  | _ => none }
def TicketChecksWrongFalsely : Prop := ticketChecksRow.holds Try.pinned (OpenSpec.ofChange ticketChecksWrong)

/-- 'kerbsuitelaw1.PrincipalValid': WHATEVER THE INPUT: true; the input reads as it did. -/
def principalValidSpec : ChangeSpec := { name := "principalValid", fn := fun _ => fun
  | [d1, d2, d3, d4, d5] => { results := [.lit (.bool true)], args := [d1, d2, d3, d4, d5] }
  | _ => none }
def principalValidRow : OpenClaim := { program := "ytjgiijcnhhnkkaa", sum := "725169fddf7d783795aa2ba8e3a6e22b7cf87e6f78f101815dfbfb1e316dbbc2", func := "kerbsuite/kerbsuitelaw1.PrincipalValid", spec := "principalValid", inPlace := ["internal/bytealg.IndexByteString", "internal/bytealg.IndexString"], named := ["internal/bytealg.MaxLen"], apart := false }
def PrincipalValidSaid : Prop := principalValidRow.holds Try.pinned (OpenSpec.ofChange principalValidSpec)

/-- ITS FALSE NEIGHBOUR: 'it returns false'. Refute it at one input. -/
def principalValidWrong : ChangeSpec := { name := "principalValid", fn := fun _ => fun
  | [d1, d2, d3, d4, d5] => { results := [.lit (.bool false)], args := [d1, d2, d3, d4, d5] }
  | _ => none }
def PrincipalValidWrongFalsely : Prop := principalValidRow.holds Try.pinned (OpenSpec.ofChange principalValidWrong)

/-- 'kerbsuitelaw1.PrincipalParses': WHATEVER THE INPUT: true; the input reads as it did. -/
def principalParsesSpec : ChangeSpec := { name := "principalParses", fn := fun _ => fun
  | [d1, d2, d3] => { results := [.lit (.bool true)], args := [d1, d2, d3] }
  | _ => none }
def principalParsesRow : OpenClaim := { program := "ytjgiijcnhhnkkaa", sum := "725169fddf7d783795aa2ba8e3a6e22b7cf87e6f78f101815dfbfb1e316dbbc2", func := "kerbsuite/kerbsuitelaw1.PrincipalParses", spec := "principalParses", inPlace := ["internal/bytealg.IndexByteString", "internal/bytealg.IndexString"], named := ["internal/bytealg.MaxLen"], apart := false }
def PrincipalParsesSaid : Prop := principalParsesRow.holds Try.pinned (OpenSpec.ofChange principalParsesSpec)

/-- ITS FALSE NEIGHBOUR: 'it returns false'. Refute it at one input. -/
def principalParsesWrong : ChangeSpec := { name := "principalParses", fn := fun _ => fun
  | [d1, d2, d3] => { results := [.lit (.bool false)], args := [d1, d2, d3] }
  | _ => none }
def PrincipalParsesWrongFalsely : Prop := principalParsesRow.holds Try.pinned (OpenSpec.ofChange principalParsesWrong)

/-- 'kerbsuitelaw1.PrincipalTgs': WHATEVER THE INPUT: true; the input reads as it did. -/
def principalTgsSpec : ChangeSpec := { name := "principalTgs", fn := fun _ => fun
  | [d1, d2, d3] => { results := [.lit (.bool true)], args := [d1, d2, d3] }
  | _ => none }
def principalTgsRow : OpenClaim := { program := "ytjgiijcnhhnkkaa", sum := "725169fddf7d783795aa2ba8e3a6e22b7cf87e6f78f101815dfbfb1e316dbbc2", func := "kerbsuite/kerbsuitelaw1.PrincipalTgs", spec := "principalTgs", inPlace := ["internal/bytealg.IndexByteString", "internal/bytealg.IndexString"], named := ["internal/bytealg.MaxLen"], apart := false }
def PrincipalTgsSaid : Prop := principalTgsRow.holds Try.pinned (OpenSpec.ofChange principalTgsSpec)

/-- ITS FALSE NEIGHBOUR: 'it returns false'. Refute it at one input. -/
def principalTgsWrong : ChangeSpec := { name := "principalTgs", fn := fun _ => fun
  | [d1, d2, d3] => { results := [.lit (.bool false)], args := [d1, d2, d3] }
  | _ => none }
def PrincipalTgsWrongFalsely : Prop := principalTgsRow.holds Try.pinned (OpenSpec.ofChange principalTgsWrong)

/-- 'kerbsuitelaw5.FieldTrip': WHATEVER THE INPUT: true; the input reads as it did. -/
def fieldTripSpec : ChangeSpec := { name := "fieldTrip", fn := fun _ => fun
  | [d1, d2, d3, d4, d5, d6, d7] => { results := [.lit (.bool true)], args := [d1, d2, d3, d4, d5, d6, d7] }
  | _ => none }
def fieldTripRow : OpenClaim := { program := "ytjgiijcnhhnkkaa", sum := "725169fddf7d783795aa2ba8e3a6e22b7cf87e6f78f101815dfbfb1e316dbbc2", func := "kerbsuite/kerbsuitelaw5.FieldTrip", spec := "fieldTrip", inPlace := ["internal/bytealg.IndexByte", "internal/bytealg.IndexByteString"], apart := false }
def FieldTripSaid : Prop := fieldTripRow.holds Try.pinned (OpenSpec.ofChange fieldTripSpec)

/-- ITS FALSE NEIGHBOUR: 'it returns false'. Refute it at one input. -/
def fieldTripWrong : ChangeSpec := { name := "fieldTrip", fn := fun _ => fun
  | [d1, d2, d3, d4, d5, d6, d7] => { results := [.lit (.bool false)], args := [d1, d2, d3, d4, d5, d6, d7] }
  | _ => none }
def FieldTripWrongFalsely : Prop := fieldTripRow.holds Try.pinned (OpenSpec.ofChange fieldTripWrong)

/-- 'kerbsuitelaw1.PrincipalFormats': WHATEVER THE INPUT: true; the input reads as it did. -/
def principalFormatsSpec : ChangeSpec := { name := "principalFormats", fn := fun _ => fun
  | [d1, d2] => { results := [.lit (.bool true)], args := [d1, d2] }
  | _ => none }
def principalFormatsRow : OpenClaim := { program := "ytjgiijcnhhnkkaa", sum := "725169fddf7d783795aa2ba8e3a6e22b7cf87e6f78f101815dfbfb1e316dbbc2", func := "kerbsuite/kerbsuitelaw1.PrincipalFormats", spec := "principalFormats", inPlace := ["internal/bytealg.IndexByteString", "internal/bytealg.IndexString"], named := ["internal/bytealg.MaxLen"], apart := false }
def PrincipalFormatsSaid : Prop := principalFormatsRow.holds Try.pinned (OpenSpec.ofChange principalFormatsSpec)

/-- ITS FALSE NEIGHBOUR: 'it returns false'. Refute it at one input. -/
def principalFormatsWrong : ChangeSpec := { name := "principalFormats", fn := fun _ => fun
  | [d1, d2] => { results := [.lit (.bool false)], args := [d1, d2] }
  | _ => none }
def PrincipalFormatsWrongFalsely : Prop := principalFormatsRow.holds Try.pinned (OpenSpec.ofChange principalFormatsWrong)

/-- 'kerbsuitelaw1.PrincipalOrder': WHATEVER THE INPUT: true; the input reads as it did. -/
def principalOrderSpec : ChangeSpec := { name := "principalOrder", fn := fun _ => fun
  | [d1, d2, d3, d4] => { results := [.lit (.bool true)], args := [d1, d2, d3, d4] }
  | _ => none }
def principalOrderRow : OpenClaim := { program := "ytjgiijcnhhnkkaa", sum := "725169fddf7d783795aa2ba8e3a6e22b7cf87e6f78f101815dfbfb1e316dbbc2", func := "kerbsuite/kerbsuitelaw1.PrincipalOrder", spec := "principalOrder", inPlace := ["internal/bytealg.IndexByteString", "internal/bytealg.IndexString", "internal/bytealg.abigen_runtime_cmpstring"], named := ["internal/bytealg.MaxLen"], apart := false }
def PrincipalOrderSaid : Prop := principalOrderRow.holds Try.pinned (OpenSpec.ofChange principalOrderSpec)

/-- ITS FALSE NEIGHBOUR: 'it returns false'. Refute it at one input. -/
def principalOrderWrong : ChangeSpec := { name := "principalOrder", fn := fun _ => fun
  | [d1, d2, d3, d4] => { results := [.lit (.bool false)], args := [d1, d2, d3, d4] }
  | _ => none }
def PrincipalOrderWrongFalsely : Prop := principalOrderRow.holds Try.pinned (OpenSpec.ofChange principalOrderWrong)

/-- 'kerbsuitelaw7.AuthenticatorEncodes': WHATEVER THE INPUT: true; the input reads as it did. -/
def authenticatorEncodesSpec : ChangeSpec := { name := "authenticatorEncodes", fn := fun _ => fun
  | [d1, d2, d3] => { results := [.lit (.bool true)], args := [d1, d2, d3] }
  | _ => none }
def authenticatorEncodesRow : OpenClaim := { program := "ytjgiijcnhhnkkaa", sum := "725169fddf7d783795aa2ba8e3a6e22b7cf87e6f78f101815dfbfb1e316dbbc2", func := "kerbsuite/kerbsuitelaw7.AuthenticatorEncodes", spec := "authenticatorEncodes", inPlace := ["internal/bytealg.IndexByteString", "internal/bytealg.IndexByte"], apart := false }
def AuthenticatorEncodesSaid : Prop := authenticatorEncodesRow.holds Try.pinned (OpenSpec.ofChange authenticatorEncodesSpec)

/-- ITS FALSE NEIGHBOUR: 'it returns false'. Refute it at one input. -/
def authenticatorEncodesWrong : ChangeSpec := { name := "authenticatorEncodes", fn := fun _ => fun
  | [d1, d2, d3] => { results := [.lit (.bool false)], args := [d1, d2, d3] }
  | _ => none }
def AuthenticatorEncodesWrongFalsely : Prop := authenticatorEncodesRow.holds Try.pinned (OpenSpec.ofChange authenticatorEncodesWrong)

/-- 'kerbsuitelaw7.AuthenticatorDecodes': WHATEVER THE INPUT: true; the input reads as it did. -/
def authenticatorDecodesSpec : ChangeSpec := { name := "authenticatorDecodes", fn := fun _ => fun
  | [d1, d2, d3, d4, d5] => { results := [.lit (.bool true)], args := [d1, d2, d3, d4, d5] }
  | _ => none }
def authenticatorDecodesRow : OpenClaim := { program := "ytjgiijcnhhnkkaa", sum := "725169fddf7d783795aa2ba8e3a6e22b7cf87e6f78f101815dfbfb1e316dbbc2", func := "kerbsuite/kerbsuitelaw7.AuthenticatorDecodes", spec := "authenticatorDecodes", inPlace := ["internal/bytealg.IndexByteString", "internal/bytealg.IndexByte"], apart := false }
def AuthenticatorDecodesSaid : Prop := authenticatorDecodesRow.holds Try.pinned (OpenSpec.ofChange authenticatorDecodesSpec)

/-- ITS FALSE NEIGHBOUR: 'it returns false'. Refute it at one input. -/
def authenticatorDecodesWrong : ChangeSpec := { name := "authenticatorDecodes", fn := fun _ => fun
  | [d1, d2, d3, d4, d5] => { results := [.lit (.bool false)], args := [d1, d2, d3, d4, d5] }
  | _ => none }
def AuthenticatorDecodesWrongFalsely : Prop := authenticatorDecodesRow.holds Try.pinned (OpenSpec.ofChange authenticatorDecodesWrong)

/- THE SECOND FORM. 'bulk': how many values and letters a reading holds, each counted each time it is reached (what is shared counts as often as it is met; a slice's spare places count too). A statement '..UptoSaid' is the law's where the arguments, and the package variables that the reading takes, are together of bulk at most 1048576: NARROWER than '..Said'. Prove '..Said' where nothing that the law and all that it calls make is longer than what came in: it says more and counts as full. Else prove '..UptoSaid'. A law counts once. -/
mutual
def uptoBulk {H : Type} : DataW H → Nat
  | .lit (.string bytes) => bytes.length + 1
  | .lit _ => 1
  | .nil => 1
  | .ptr d => uptoBulk d + 1
  | .slice elems spare => uptoBulkAll elems + uptoBulkAll spare + 1
  | .agg parts => uptoBulkAll parts + 1
  | .iface _ d => uptoBulk d + 1
  | .map entries => uptoBulkEntries entries + 1
  | .held _ => 1
def uptoBulkAll {H : Type} : List (DataW H) → Nat
  | [] => 0
  | d :: r => uptoBulk d + uptoBulkAll r
def uptoBulkEntries {H : Type} : List (Lit × DataW H) → Nat
  | [] => 0
  | x :: r => uptoBulkEntry x + uptoBulkEntries r
def uptoBulkEntry {H : Type} : Lit × DataW H → Nat
  | (.string bytes, d) => bytes.length + uptoBulk d + 1
  | (_, d) => uptoBulk d + 1
 end
def uptoSmall : (H : Type) → List (DataW H) → Bool := fun _ ds => decide (uptoBulkAll ds ≤ 1048576)
def OpenSpec.upto (s : _root_.Go.ChangeSpec) : _root_.Go.OpenSpec := { _root_.Go.OpenSpec.ofChange s with cond := some uptoSmall }

/-- 'kerbsuitelaw26.ConverterConverts', WHERE WHAT IT READS IS OF BULK AT MOST 1048576: true; the input reads as it did. -/
def converterConvertsUptoRow : OpenClaim := { program := "ytjgiijcnhhnkkaa", sum := "725169fddf7d783795aa2ba8e3a6e22b7cf87e6f78f101815dfbfb1e316dbbc2", func := "kerbsuite/kerbsuitelaw26.ConverterConverts", spec := "converterConverts", inPlace := ["internal/bytealg.IndexByteString"], apart := false, narrowed := true }
def ConverterConvertsUptoSaid : Prop := converterConvertsUptoRow.holds Try.pinned (OpenSpec.upto converterConvertsSpec)

/-- 'kerbsuitelaw7.AuthenticatorChecks', WHERE WHAT IT READS IS OF BULK AT MOST 1048576: true; the input reads as it did. -/
def authenticatorChecksUptoRow : OpenClaim := { program := "ytjgiijcnhhnkkaa", sum := "725169fddf7d783795aa2ba8e3a6e22b7cf87e6f78f101815dfbfb1e316dbbc2", func := "kerbsuite/kerbsuitelaw7.AuthenticatorChecks", spec := "authenticatorChecks", inPlace := ["internal/bytealg.IndexByteString"], apart := false, narrowed := true }
def AuthenticatorChecksUptoSaid : Prop := authenticatorChecksUptoRow.holds Try.pinned (OpenSpec.upto authenticatorChecksSpec)

/-- 'kerbsuitelaw5.FieldTexts', WHERE WHAT IT READS IS OF BULK AT MOST 1048576: true; the input reads as it did. -/
def fieldTextsUptoRow : OpenClaim := { program := "ytjgiijcnhhnkkaa", sum := "725169fddf7d783795aa2ba8e3a6e22b7cf87e6f78f101815dfbfb1e316dbbc2", func := "kerbsuite/kerbsuitelaw5.FieldTexts", spec := "fieldTexts", inPlace := ["internal/bytealg.IndexByte", "internal/bytealg.IndexByteString"], apart := false, narrowed := true }
def FieldTextsUptoSaid : Prop := fieldTextsUptoRow.holds Try.pinned (OpenSpec.upto fieldTextsSpec)

/-- 'kerbsuitelaw6.TicketChecks', WHERE WHAT IT READS IS OF BULK AT MOST 1048576: true; the input reads as it did. -/
def ticketChecksUptoRow : OpenClaim := { program := "ytjgiijcnhhnkkaa", sum := "725169fddf7d783795aa2ba8e3a6e22b7cf87e6f78f101815dfbfb1e316dbbc2", func := "kerbsuite/kerbsuitelaw6.TicketChecks", spec := "ticketChecks", inPlace := ["internal/bytealg.IndexByteString"], apart := false, narrowed := true }
def TicketChecksUptoSaid : Prop := ticketChecksUptoRow.holds Try.pinned (OpenSpec.upto ticketChecksSpec)

/-- 'kerbsuitelaw1.PrincipalValid', WHERE WHAT IT READS IS OF BULK AT MOST 1048576: true; the input reads as it did. -/
def principalValidUptoRow : OpenClaim := { program := "ytjgiijcnhhnkkaa", sum := "725169fddf7d783795aa2ba8e3a6e22b7cf87e6f78f101815dfbfb1e316dbbc2", func := "kerbsuite/kerbsuitelaw1.PrincipalValid", spec := "principalValid", inPlace := ["internal/bytealg.IndexByteString", "internal/bytealg.IndexString"], named := ["internal/bytealg.MaxLen"], apart := false, narrowed := true }
def PrincipalValidUptoSaid : Prop := principalValidUptoRow.holds Try.pinned (OpenSpec.upto principalValidSpec)

/-- 'kerbsuitelaw1.PrincipalParses', WHERE WHAT IT READS IS OF BULK AT MOST 1048576: true; the input reads as it did. -/
def principalParsesUptoRow : OpenClaim := { program := "ytjgiijcnhhnkkaa", sum := "725169fddf7d783795aa2ba8e3a6e22b7cf87e6f78f101815dfbfb1e316dbbc2", func := "kerbsuite/kerbsuitelaw1.PrincipalParses", spec := "principalParses", inPlace := ["internal/bytealg.IndexByteString", "internal/bytealg.IndexString"], named := ["internal/bytealg.MaxLen"], apart := false, narrowed := true }
def PrincipalParsesUptoSaid : Prop := principalParsesUptoRow.holds Try.pinned (OpenSpec.upto principalParsesSpec)

/-- 'kerbsuitelaw1.PrincipalTgs', WHERE WHAT IT READS IS OF BULK AT MOST 1048576: true; the input reads as it did. -/
def principalTgsUptoRow : OpenClaim := { program := "ytjgiijcnhhnkkaa", sum := "725169fddf7d783795aa2ba8e3a6e22b7cf87e6f78f101815dfbfb1e316dbbc2", func := "kerbsuite/kerbsuitelaw1.PrincipalTgs", spec := "principalTgs", inPlace := ["internal/bytealg.IndexByteString", "internal/bytealg.IndexString"], named := ["internal/bytealg.MaxLen"], apart := false, narrowed := true }
def PrincipalTgsUptoSaid : Prop := principalTgsUptoRow.holds Try.pinned (OpenSpec.upto principalTgsSpec)

/-- 'kerbsuitelaw5.FieldTrip', WHERE WHAT IT READS IS OF BULK AT MOST 1048576: true; the input reads as it did. -/
def fieldTripUptoRow : OpenClaim := { program := "ytjgiijcnhhnkkaa", sum := "725169fddf7d783795aa2ba8e3a6e22b7cf87e6f78f101815dfbfb1e316dbbc2", func := "kerbsuite/kerbsuitelaw5.FieldTrip", spec := "fieldTrip", inPlace := ["internal/bytealg.IndexByte", "internal/bytealg.IndexByteString"], apart := false, narrowed := true }
def FieldTripUptoSaid : Prop := fieldTripUptoRow.holds Try.pinned (OpenSpec.upto fieldTripSpec)

/-- 'kerbsuitelaw1.PrincipalFormats', WHERE WHAT IT READS IS OF BULK AT MOST 1048576: true; the input reads as it did. -/
def principalFormatsUptoRow : OpenClaim := { program := "ytjgiijcnhhnkkaa", sum := "725169fddf7d783795aa2ba8e3a6e22b7cf87e6f78f101815dfbfb1e316dbbc2", func := "kerbsuite/kerbsuitelaw1.PrincipalFormats", spec := "principalFormats", inPlace := ["internal/bytealg.IndexByteString", "internal/bytealg.IndexString"], named := ["internal/bytealg.MaxLen"], apart := false, narrowed := true }
def PrincipalFormatsUptoSaid : Prop := principalFormatsUptoRow.holds Try.pinned (OpenSpec.upto principalFormatsSpec)

/-- 'kerbsuitelaw1.PrincipalOrder', WHERE WHAT IT READS IS OF BULK AT MOST 1048576: true; the input reads as it did. -/
def principalOrderUptoRow : OpenClaim := { program := "ytjgiijcnhhnkkaa", sum := "725169fddf7d783795aa2ba8e3a6e22b7cf87e6f78f101815dfbfb1e316dbbc2", func := "kerbsuite/kerbsuitelaw1.PrincipalOrder", spec := "principalOrder", inPlace := ["internal/bytealg.IndexByteString", "internal/bytealg.IndexString", "internal/bytealg.abigen_runtime_cmpstring"], named := ["internal/bytealg.MaxLen"], apart := false, narrowed := true }
def PrincipalOrderUptoSaid : Prop := principalOrderUptoRow.holds Try.pinned (OpenSpec.upto principalOrderSpec)

/-- 'kerbsuitelaw7.AuthenticatorEncodes', WHERE WHAT IT READS IS OF BULK AT MOST 1048576: true; the input reads as it did. -/
def authenticatorEncodesUptoRow : OpenClaim := { program := "ytjgiijcnhhnkkaa", sum := "725169fddf7d783795aa2ba8e3a6e22b7cf87e6f78f101815dfbfb1e316dbbc2", func := "kerbsuite/kerbsuitelaw7.AuthenticatorEncodes", spec := "authenticatorEncodes", inPlace := ["internal/bytealg.IndexByteString", "internal/bytealg.IndexByte"], apart := false, narrowed := true }
def AuthenticatorEncodesUptoSaid : Prop := authenticatorEncodesUptoRow.holds Try.pinned (OpenSpec.upto authenticatorEncodesSpec)

/-- 'kerbsuitelaw7.AuthenticatorDecodes', WHERE WHAT IT READS IS OF BULK AT MOST 1048576: true; the input reads as it did. -/
def authenticatorDecodesUptoRow : OpenClaim := { program := "ytjgiijcnhhnkkaa", sum := "725169fddf7d783795aa2ba8e3a6e22b7cf87e6f78f101815dfbfb1e316dbbc2", func := "kerbsuite/kerbsuitelaw7.AuthenticatorDecodes", spec := "authenticatorDecodes", inPlace := ["internal/bytealg.IndexByteString", "internal/bytealg.IndexByte"], apart := false, narrowed := true }
def AuthenticatorDecodesUptoSaid : Prop := authenticatorDecodesUptoRow.holds Try.pinned (OpenSpec.upto authenticatorDecodesSpec)

end Rows
end Go.Proofs.Ytjgiijcnhhnkkaa
