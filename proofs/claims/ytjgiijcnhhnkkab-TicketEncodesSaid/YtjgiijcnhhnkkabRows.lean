/-
  No cell of these rows narrows 'for every input' (looked for: loops, veiled, ifaces, maps, wideKeys, modest, calm, conditions, laid).
  DERIVED. THE GIVEN ROWS OF THIS SEAT. 12 by the template 'for every input the law returns true; each argument reads behind the call as it read before'; 0 by the template 'total and deterministic' (their statements: YtjgiijcnhhnkkabTotals.lean).
  GIVEN WITH THE SEED: the statements are not yours to turn. If you find one false, say at which input.
  Laid BY PROGRAM, IN A SANDBOX (cutbox-rows.mjs): the forced cells as the released guide's own fill.sh prints them over the translation 4f6f0065f6bb87b7… (all of the seat's roots in one cut). By AI agents, Wed Nov 11 2026. No macro, syntax, notation, axiom, sorry.
-/
import Derived.Test.YtjgiijcnhhnkkabChecked
import GoSem.Claim
import GoSem.ClaimJoined
import GoSem.ClaimMapViews
import Derived.JoinedTies
import Derived.KernelRfl
namespace Go.Proofs.Ytjgiijcnhhnkkab
/- THE CELL 'sum', in the pinned program and in every row, IS THE sha256 OF THE DUMP (.gsa) THAT YtjgiijcnhhnkkabProg.lean LOADS. Nothing in Lean hashes anything: it is a label: what it is worth is what the hold of that sum in a sandbox is worth. -/
noncomputable def Try.pinned : Pinned := { name := "ytjgiijcnhhnkkab", sum := "4f6f0065f6bb87b743f625eed7f70d07051f9318cac7de2fd5e08284635383d5", checked := Try.checked }
namespace Rows
def none {H : Type} : Left H := { results := [], args := [] }

/-- 'kerbsuitelaw26.ConverterBounds': WHATEVER THE INPUT: true; the input reads as it did. -/
def converterBoundsSpec : ChangeSpec := { name := "converterBounds", fn := fun _ => fun
  | [d1, d2, d3, d4, d5, d6] => { results := [.lit (.bool true)], args := [d1, d2, d3, d4, d5, d6] }
  | _ => none }
def converterBoundsRow : OpenClaim := { program := "ytjgiijcnhhnkkab", sum := "4f6f0065f6bb87b743f625eed7f70d07051f9318cac7de2fd5e08284635383d5", func := "kerbsuite/kerbsuitelaw26.ConverterBounds", spec := "converterBounds", inPlace := ["internal/bytealg.IndexByteString"], apart := false }
def ConverterBoundsSaid : Prop := converterBoundsRow.holds Try.pinned (OpenSpec.ofChange converterBoundsSpec)

/-- ITS FALSE NEIGHBOUR: 'it returns false'. Refute it at one input. -/
def converterBoundsWrong : ChangeSpec := { name := "converterBounds", fn := fun _ => fun
  | [d1, d2, d3, d4, d5, d6] => { results := [.lit (.bool false)], args := [d1, d2, d3, d4, d5, d6] }
  | _ => none }
def ConverterBoundsWrongFalsely : Prop := converterBoundsRow.holds Try.pinned (OpenSpec.ofChange converterBoundsWrong)

/-- 'kerbsuitelaw13.SrvtabFinds': WHATEVER THE INPUT: true; the input reads as it did. -/
def srvtabFindsSpec : ChangeSpec := { name := "srvtabFinds", fn := fun _ => fun
  | [d1, d2, d3, d4, d5, d6, d7, d8] => { results := [.lit (.bool true)], args := [d1, d2, d3, d4, d5, d6, d7, d8] }
  | _ => none }
def srvtabFindsRow : OpenClaim := { program := "ytjgiijcnhhnkkab", sum := "4f6f0065f6bb87b743f625eed7f70d07051f9318cac7de2fd5e08284635383d5", func := "kerbsuite/kerbsuitelaw13.SrvtabFinds", spec := "srvtabFinds", inPlace := ["internal/bytealg.IndexByteString"], apart := false }
def SrvtabFindsSaid : Prop := srvtabFindsRow.holds Try.pinned (OpenSpec.ofChange srvtabFindsSpec)

/-- ITS FALSE NEIGHBOUR: 'it returns false'. Refute it at one input. -/
def srvtabFindsWrong : ChangeSpec := { name := "srvtabFinds", fn := fun _ => fun
  | [d1, d2, d3, d4, d5, d6, d7, d8] => { results := [.lit (.bool false)], args := [d1, d2, d3, d4, d5, d6, d7, d8] }
  | _ => none }
def SrvtabFindsWrongFalsely : Prop := srvtabFindsRow.holds Try.pinned (OpenSpec.ofChange srvtabFindsWrong)

/-- 'kerbsuitelaw13.SrvtabLatest': WHATEVER THE INPUT: true; the input reads as it did. -/
def srvtabLatestSpec : ChangeSpec := { name := "srvtabLatest", fn := fun _ => fun
  | [d1, d2, d3, d4] => { results := [.lit (.bool true)], args := [d1, d2, d3, d4] }
  | _ => none }
def srvtabLatestRow : OpenClaim := { program := "ytjgiijcnhhnkkab", sum := "4f6f0065f6bb87b743f625eed7f70d07051f9318cac7de2fd5e08284635383d5", func := "kerbsuite/kerbsuitelaw13.SrvtabLatest", spec := "srvtabLatest", inPlace := ["internal/bytealg.IndexByteString"], apart := false }
def SrvtabLatestSaid : Prop := srvtabLatestRow.holds Try.pinned (OpenSpec.ofChange srvtabLatestSpec)

/-- ITS FALSE NEIGHBOUR: 'it returns false'. Refute it at one input. -/
def srvtabLatestWrong : ChangeSpec := { name := "srvtabLatest", fn := fun _ => fun
  | [d1, d2, d3, d4] => { results := [.lit (.bool false)], args := [d1, d2, d3, d4] }
  | _ => none }
def SrvtabLatestWrongFalsely : Prop := srvtabLatestRow.holds Try.pinned (OpenSpec.ofChange srvtabLatestWrong)

/-- 'kerbsuitelaw15.CcacheChecks': WHATEVER THE INPUT: true; the input reads as it did. -/
def ccacheChecksSpec : ChangeSpec := { name := "ccacheChecks", fn := fun _ => fun
  | [d1, d2, d3, d4, d5, d6, d7] => { results := [.lit (.bool true)], args := [d1, d2, d3, d4, d5, d6, d7] }
  | _ => none }
def ccacheChecksRow : OpenClaim := { program := "ytjgiijcnhhnkkab", sum := "4f6f0065f6bb87b743f625eed7f70d07051f9318cac7de2fd5e08284635383d5", func := "kerbsuite/kerbsuitelaw15.CcacheChecks", spec := "ccacheChecks", inPlace := ["internal/bytealg.IndexByteString"], apart := false }
def CcacheChecksSaid : Prop := ccacheChecksRow.holds Try.pinned (OpenSpec.ofChange ccacheChecksSpec)

/-- ITS FALSE NEIGHBOUR: 'it returns false'. Refute it at one input. -/
def ccacheChecksWrong : ChangeSpec := { name := "ccacheChecks", fn := fun _ => fun
  | [d1, d2, d3, d4, d5, d6, d7] => { results := [.lit (.bool false)], args := [d1, d2, d3, d4, d5, d6, d7] }
  | _ => none }
def CcacheChecksWrongFalsely : Prop := ccacheChecksRow.holds Try.pinned (OpenSpec.ofChange ccacheChecksWrong)

/-- 'kerbsuitelaw15.CcacheStores': WHATEVER THE INPUT: true; the input reads as it did. -/
def ccacheStoresSpec : ChangeSpec := { name := "ccacheStores", fn := fun _ => fun
  | [d1, d2, d3, d4, d5, d6] => { results := [.lit (.bool true)], args := [d1, d2, d3, d4, d5, d6] }
  | _ => none }
def ccacheStoresRow : OpenClaim := { program := "ytjgiijcnhhnkkab", sum := "4f6f0065f6bb87b743f625eed7f70d07051f9318cac7de2fd5e08284635383d5", func := "kerbsuite/kerbsuitelaw15.CcacheStores", spec := "ccacheStores", inPlace := ["internal/bytealg.IndexByteString"], apart := false }
def CcacheStoresSaid : Prop := ccacheStoresRow.holds Try.pinned (OpenSpec.ofChange ccacheStoresSpec)

/-- ITS FALSE NEIGHBOUR: 'it returns false'. Refute it at one input. -/
def ccacheStoresWrong : ChangeSpec := { name := "ccacheStores", fn := fun _ => fun
  | [d1, d2, d3, d4, d5, d6] => { results := [.lit (.bool false)], args := [d1, d2, d3, d4, d5, d6] }
  | _ => none }
def CcacheStoresWrongFalsely : Prop := ccacheStoresRow.holds Try.pinned (OpenSpec.ofChange ccacheStoresWrong)

/-- 'kerbsuitelaw15.CcacheKeeps': WHATEVER THE INPUT: true; the input reads as it did. -/
def ccacheKeepsSpec : ChangeSpec := { name := "ccacheKeeps", fn := fun _ => fun
  | [d1, d2, d3] => { results := [.lit (.bool true)], args := [d1, d2, d3] }
  | _ => none }
def ccacheKeepsRow : OpenClaim := { program := "ytjgiijcnhhnkkab", sum := "4f6f0065f6bb87b743f625eed7f70d07051f9318cac7de2fd5e08284635383d5", func := "kerbsuite/kerbsuitelaw15.CcacheKeeps", spec := "ccacheKeeps", inPlace := ["internal/bytealg.IndexByteString"], apart := false }
def CcacheKeepsSaid : Prop := ccacheKeepsRow.holds Try.pinned (OpenSpec.ofChange ccacheKeepsSpec)

/-- ITS FALSE NEIGHBOUR: 'it returns false'. Refute it at one input. -/
def ccacheKeepsWrong : ChangeSpec := { name := "ccacheKeeps", fn := fun _ => fun
  | [d1, d2, d3] => { results := [.lit (.bool false)], args := [d1, d2, d3] }
  | _ => none }
def CcacheKeepsWrongFalsely : Prop := ccacheKeepsRow.holds Try.pinned (OpenSpec.ofChange ccacheKeepsWrong)

/-- 'kerbsuitelaw10.AppAnswers': WHATEVER THE INPUT: true; the input reads as it did. -/
def appAnswersSpec : ChangeSpec := { name := "appAnswers", fn := fun _ => fun
  | [d1, d2, d3, d4, d5, d6, d7] => { results := [.lit (.bool true)], args := [d1, d2, d3, d4, d5, d6, d7] }
  | _ => none }
def appAnswersRow : OpenClaim := { program := "ytjgiijcnhhnkkab", sum := "4f6f0065f6bb87b743f625eed7f70d07051f9318cac7de2fd5e08284635383d5", func := "kerbsuite/kerbsuitelaw10.AppAnswers", spec := "appAnswers", inPlace := ["internal/bytealg.IndexByteString"], apart := false }
def AppAnswersSaid : Prop := appAnswersRow.holds Try.pinned (OpenSpec.ofChange appAnswersSpec)

/-- ITS FALSE NEIGHBOUR: 'it returns false'. Refute it at one input. -/
def appAnswersWrong : ChangeSpec := { name := "appAnswers", fn := fun _ => fun
  | [d1, d2, d3, d4, d5, d6, d7] => { results := [.lit (.bool false)], args := [d1, d2, d3, d4, d5, d6, d7] }
  | _ => none }
def AppAnswersWrongFalsely : Prop := appAnswersRow.holds Try.pinned (OpenSpec.ofChange appAnswersWrong)

/-- 'kerbsuitelaw6.TicketEncodes': WHATEVER THE INPUT: true; the input reads as it did. -/
def ticketEncodesSpec : ChangeSpec := { name := "ticketEncodes", fn := fun _ => fun
  | [d1, d2] => { results := [.lit (.bool true)], args := [d1, d2] }
  | _ => none }
def ticketEncodesRow : OpenClaim := { program := "ytjgiijcnhhnkkab", sum := "4f6f0065f6bb87b743f625eed7f70d07051f9318cac7de2fd5e08284635383d5", func := "kerbsuite/kerbsuitelaw6.TicketEncodes", spec := "ticketEncodes", inPlace := ["internal/bytealg.IndexByteString", "internal/bytealg.IndexByte"], apart := false }
def TicketEncodesSaid : Prop := ticketEncodesRow.holds Try.pinned (OpenSpec.ofChange ticketEncodesSpec)

/-- ITS FALSE NEIGHBOUR: 'it returns false'. Refute it at one input. -/
def ticketEncodesWrong : ChangeSpec := { name := "ticketEncodes", fn := fun _ => fun
  | [d1, d2] => { results := [.lit (.bool false)], args := [d1, d2] }
  | _ => none }
def TicketEncodesWrongFalsely : Prop := ticketEncodesRow.holds Try.pinned (OpenSpec.ofChange ticketEncodesWrong)

/-- 'kerbsuitelaw6.TicketDecodes': WHATEVER THE INPUT: true; the input reads as it did. -/
def ticketDecodesSpec : ChangeSpec := { name := "ticketDecodes", fn := fun _ => fun
  | [d1, d2, d3, d4] => { results := [.lit (.bool true)], args := [d1, d2, d3, d4] }
  | _ => none }
def ticketDecodesRow : OpenClaim := { program := "ytjgiijcnhhnkkab", sum := "4f6f0065f6bb87b743f625eed7f70d07051f9318cac7de2fd5e08284635383d5", func := "kerbsuite/kerbsuitelaw6.TicketDecodes", spec := "ticketDecodes", inPlace := ["internal/bytealg.IndexByteString", "internal/bytealg.IndexByte"], apart := false }
def TicketDecodesSaid : Prop := ticketDecodesRow.holds Try.pinned (OpenSpec.ofChange ticketDecodesSpec)

/-- ITS FALSE NEIGHBOUR: 'it returns false'. Refute it at one input. -/
def ticketDecodesWrong : ChangeSpec := { name := "ticketDecodes", fn := fun _ => fun
  | [d1, d2, d3, d4] => { results := [.lit (.bool false)], args := [d1, d2, d3, d4] }
  | _ => none }
def TicketDecodesWrongFalsely : Prop := ticketDecodesRow.holds Try.pinned (OpenSpec.ofChange ticketDecodesWrong)

/-- 'kerbsuitelaw10.AppRequests': WHATEVER THE INPUT: true; the input reads as it did. -/
def appRequestsSpec : ChangeSpec := { name := "appRequests", fn := fun _ => fun
  | [d1, d2] => { results := [.lit (.bool true)], args := [d1, d2] }
  | _ => none }
def appRequestsRow : OpenClaim := { program := "ytjgiijcnhhnkkab", sum := "4f6f0065f6bb87b743f625eed7f70d07051f9318cac7de2fd5e08284635383d5", func := "kerbsuite/kerbsuitelaw10.AppRequests", spec := "appRequests", inPlace := ["internal/bytealg.IndexByteString", "internal/bytealg.IndexByte"], apart := false }
def AppRequestsSaid : Prop := appRequestsRow.holds Try.pinned (OpenSpec.ofChange appRequestsSpec)

/-- ITS FALSE NEIGHBOUR: 'it returns false'. Refute it at one input. -/
def appRequestsWrong : ChangeSpec := { name := "appRequests", fn := fun _ => fun
  | [d1, d2] => { results := [.lit (.bool false)], args := [d1, d2] }
  | _ => none }
def AppRequestsWrongFalsely : Prop := appRequestsRow.holds Try.pinned (OpenSpec.ofChange appRequestsWrong)

/-- 'kerbsuitelaw10.AppTgs': WHATEVER THE INPUT: true; the input reads as it did. -/
def appTgsSpec : ChangeSpec := { name := "appTgs", fn := fun _ => fun
  | [d1, d2, d3] => { results := [.lit (.bool true)], args := [d1, d2, d3] }
  | _ => none }
def appTgsRow : OpenClaim := { program := "ytjgiijcnhhnkkab", sum := "4f6f0065f6bb87b743f625eed7f70d07051f9318cac7de2fd5e08284635383d5", func := "kerbsuite/kerbsuitelaw10.AppTgs", spec := "appTgs", inPlace := ["internal/bytealg.IndexByteString", "internal/bytealg.IndexByte"], apart := false }
def AppTgsSaid : Prop := appTgsRow.holds Try.pinned (OpenSpec.ofChange appTgsSpec)

/-- ITS FALSE NEIGHBOUR: 'it returns false'. Refute it at one input. -/
def appTgsWrong : ChangeSpec := { name := "appTgs", fn := fun _ => fun
  | [d1, d2, d3] => { results := [.lit (.bool false)], args := [d1, d2, d3] }
  | _ => none }
def AppTgsWrongFalsely : Prop := appTgsRow.holds Try.pinned (OpenSpec.ofChange appTgsWrong)

/-- 'kerbsuitelaw10.AppDecodes': WHATEVER THE INPUT: true; the input reads as it did. -/
def appDecodesSpec : ChangeSpec := { name := "appDecodes", fn := fun _ => fun
  | [d1, d2, d3, d4, d5, d6, d7] => { results := [.lit (.bool true)], args := [d1, d2, d3, d4, d5, d6, d7] }
  | _ => none }
def appDecodesRow : OpenClaim := { program := "ytjgiijcnhhnkkab", sum := "4f6f0065f6bb87b743f625eed7f70d07051f9318cac7de2fd5e08284635383d5", func := "kerbsuite/kerbsuitelaw10.AppDecodes", spec := "appDecodes", inPlace := ["internal/bytealg.IndexByteString", "internal/bytealg.IndexByte"], apart := false }
def AppDecodesSaid : Prop := appDecodesRow.holds Try.pinned (OpenSpec.ofChange appDecodesSpec)

/-- ITS FALSE NEIGHBOUR: 'it returns false'. Refute it at one input. -/
def appDecodesWrong : ChangeSpec := { name := "appDecodes", fn := fun _ => fun
  | [d1, d2, d3, d4, d5, d6, d7] => { results := [.lit (.bool false)], args := [d1, d2, d3, d4, d5, d6, d7] }
  | _ => none }
def AppDecodesWrongFalsely : Prop := appDecodesRow.holds Try.pinned (OpenSpec.ofChange appDecodesWrong)

/- THE SECOND FORM. 'bulk': how many values and letters a reading holds, each counted each time it is reached (what is shared counts as often as it is met; a slice's spare places count too). A statement '..UptoSaid' is the law's where the arguments, and the package variables that the reading takes, are together of bulk at most 1048576: NARROWER than '..Said'. Prove '..Said' where nothing that the law and all that it calls make is longer than what came in: it says more and counts as full. Else prove '..UptoSaid'. A law counts once. -/
mutual
def uptoBulk {H : Type} : DataW H → Nat
  | .lit (.string bytes) => bytes.length + 1
  | .lit _ => 1
  | .nil => 1
  | .ptr d => uptoBulk d + 1
  | .slice elems spare => uptoBulkAll elems + uptoBulkAll spare + 1
  | .agg parts => uptoBulkAll parts + 1
  | .iface _ d => uptoBulk d + 1
  | .map entries => uptoBulkEntries entries + 1
  | .held _ => 1
def uptoBulkAll {H : Type} : List (DataW H) → Nat
  | [] => 0
  | d :: r => uptoBulk d + uptoBulkAll r
def uptoBulkEntries {H : Type} : List (Lit × DataW H) → Nat
  | [] => 0
  | x :: r => uptoBulkEntry x + uptoBulkEntries r
def uptoBulkEntry {H : Type} : Lit × DataW H → Nat
  | (.string bytes, d) => bytes.length + uptoBulk d + 1
  | (_, d) => uptoBulk d + 1
 end
def uptoSmall : (H : Type) → List (DataW H) → Bool := fun _ ds => decide (uptoBulkAll ds ≤ 1048576)
def OpenSpec.upto (s : _root_.Go.ChangeSpec) : _root_.Go.OpenSpec := { _root_.Go.OpenSpec.ofChange s with cond := some uptoSmall }

/-- 'kerbsuitelaw26.ConverterBounds', WHERE WHAT IT READS IS OF BULK AT MOST 1048576: true; the input reads as it did. -/
def converterBoundsUptoRow : OpenClaim := { program := "ytjgiijcnhhnkkab", sum := "4f6f0065f6bb87b743f625eed7f70d07051f9318cac7de2fd5e08284635383d5", func := "kerbsuite/kerbsuitelaw26.ConverterBounds", spec := "converterBounds", inPlace := ["internal/bytealg.IndexByteString"], apart := false, narrowed := true }
def ConverterBoundsUptoSaid : Prop := converterBoundsUptoRow.holds Try.pinned (OpenSpec.upto converterBoundsSpec)

/-- 'kerbsuitelaw13.SrvtabFinds', WHERE WHAT IT READS IS OF BULK AT MOST 1048576: true; the input reads as it did. -/
def srvtabFindsUptoRow : OpenClaim := { program := "ytjgiijcnhhnkkab", sum := "4f6f0065f6bb87b743f625eed7f70d07051f9318cac7de2fd5e08284635383d5", func := "kerbsuite/kerbsuitelaw13.SrvtabFinds", spec := "srvtabFinds", inPlace := ["internal/bytealg.IndexByteString"], apart := false, narrowed := true }
def SrvtabFindsUptoSaid : Prop := srvtabFindsUptoRow.holds Try.pinned (OpenSpec.upto srvtabFindsSpec)

/-- 'kerbsuitelaw13.SrvtabLatest', WHERE WHAT IT READS IS OF BULK AT MOST 1048576: true; the input reads as it did. -/
def srvtabLatestUptoRow : OpenClaim := { program := "ytjgiijcnhhnkkab", sum := "4f6f0065f6bb87b743f625eed7f70d07051f9318cac7de2fd5e08284635383d5", func := "kerbsuite/kerbsuitelaw13.SrvtabLatest", spec := "srvtabLatest", inPlace := ["internal/bytealg.IndexByteString"], apart := false, narrowed := true }
def SrvtabLatestUptoSaid : Prop := srvtabLatestUptoRow.holds Try.pinned (OpenSpec.upto srvtabLatestSpec)

/-- 'kerbsuitelaw15.CcacheChecks', WHERE WHAT IT READS IS OF BULK AT MOST 1048576: true; the input reads as it did. -/
def ccacheChecksUptoRow : OpenClaim := { program := "ytjgiijcnhhnkkab", sum := "4f6f0065f6bb87b743f625eed7f70d07051f9318cac7de2fd5e08284635383d5", func := "kerbsuite/kerbsuitelaw15.CcacheChecks", spec := "ccacheChecks", inPlace := ["internal/bytealg.IndexByteString"], apart := false, narrowed := true }
def CcacheChecksUptoSaid : Prop := ccacheChecksUptoRow.holds Try.pinned (OpenSpec.upto ccacheChecksSpec)

/-- 'kerbsuitelaw15.CcacheStores', WHERE WHAT IT READS IS OF BULK AT MOST 1048576: true; the input reads as it did. -/
def ccacheStoresUptoRow : OpenClaim := { program := "ytjgiijcnhhnkkab", sum := "4f6f0065f6bb87b743f625eed7f70d07051f9318cac7de2fd5e08284635383d5", func := "kerbsuite/kerbsuitelaw15.CcacheStores", spec := "ccacheStores", inPlace := ["internal/bytealg.IndexByteString"], apart := false, narrowed := true }
def CcacheStoresUptoSaid : Prop := ccacheStoresUptoRow.holds Try.pinned (OpenSpec.upto ccacheStoresSpec)

/-- 'kerbsuitelaw15.CcacheKeeps', WHERE WHAT IT READS IS OF BULK AT MOST 1048576: true; the input reads as it did. -/
def ccacheKeepsUptoRow : OpenClaim := { program := "ytjgiijcnhhnkkab", sum := "4f6f0065f6bb87b743f625eed7f70d07051f9318cac7de2fd5e08284635383d5", func := "kerbsuite/kerbsuitelaw15.CcacheKeeps", spec := "ccacheKeeps", inPlace := ["internal/bytealg.IndexByteString"], apart := false, narrowed := true }
def CcacheKeepsUptoSaid : Prop := ccacheKeepsUptoRow.holds Try.pinned (OpenSpec.upto ccacheKeepsSpec)

/-- 'kerbsuitelaw10.AppAnswers', WHERE WHAT IT READS IS OF BULK AT MOST 1048576: true; the input reads as it did. -/
def appAnswersUptoRow : OpenClaim := { program := "ytjgiijcnhhnkkab", sum := "4f6f0065f6bb87b743f625eed7f70d07051f9318cac7de2fd5e08284635383d5", func := "kerbsuite/kerbsuitelaw10.AppAnswers", spec := "appAnswers", inPlace := ["internal/bytealg.IndexByteString"], apart := false, narrowed := true }
def AppAnswersUptoSaid : Prop := appAnswersUptoRow.holds Try.pinned (OpenSpec.upto appAnswersSpec)

/-- 'kerbsuitelaw6.TicketEncodes', WHERE WHAT IT READS IS OF BULK AT MOST 1048576: true; the input reads as it did. -/
def ticketEncodesUptoRow : OpenClaim := { program := "ytjgiijcnhhnkkab", sum := "4f6f0065f6bb87b743f625eed7f70d07051f9318cac7de2fd5e08284635383d5", func := "kerbsuite/kerbsuitelaw6.TicketEncodes", spec := "ticketEncodes", inPlace := ["internal/bytealg.IndexByteString", "internal/bytealg.IndexByte"], apart := false, narrowed := true }
def TicketEncodesUptoSaid : Prop := ticketEncodesUptoRow.holds Try.pinned (OpenSpec.upto ticketEncodesSpec)

/-- 'kerbsuitelaw6.TicketDecodes', WHERE WHAT IT READS IS OF BULK AT MOST 1048576: true; the input reads as it did. -/
def ticketDecodesUptoRow : OpenClaim := { program := "ytjgiijcnhhnkkab", sum := "4f6f0065f6bb87b743f625eed7f70d07051f9318cac7de2fd5e08284635383d5", func := "kerbsuite/kerbsuitelaw6.TicketDecodes", spec := "ticketDecodes", inPlace := ["internal/bytealg.IndexByteString", "internal/bytealg.IndexByte"], apart := false, narrowed := true }
def TicketDecodesUptoSaid : Prop := ticketDecodesUptoRow.holds Try.pinned (OpenSpec.upto ticketDecodesSpec)

/-- 'kerbsuitelaw10.AppRequests', WHERE WHAT IT READS IS OF BULK AT MOST 1048576: true; the input reads as it did. -/
def appRequestsUptoRow : OpenClaim := { program := "ytjgiijcnhhnkkab", sum := "4f6f0065f6bb87b743f625eed7f70d07051f9318cac7de2fd5e08284635383d5", func := "kerbsuite/kerbsuitelaw10.AppRequests", spec := "appRequests", inPlace := ["internal/bytealg.IndexByteString", "internal/bytealg.IndexByte"], apart := false, narrowed := true }
def AppRequestsUptoSaid : Prop := appRequestsUptoRow.holds Try.pinned (OpenSpec.upto appRequestsSpec)

/-- 'kerbsuitelaw10.AppTgs', WHERE WHAT IT READS IS OF BULK AT MOST 1048576: true; the input reads as it did. -/
def appTgsUptoRow : OpenClaim := { program := "ytjgiijcnhhnkkab", sum := "4f6f0065f6bb87b743f625eed7f70d07051f9318cac7de2fd5e08284635383d5", func := "kerbsuite/kerbsuitelaw10.AppTgs", spec := "appTgs", inPlace := ["internal/bytealg.IndexByteString", "internal/bytealg.IndexByte"], apart := false, narrowed := true }
def AppTgsUptoSaid : Prop := appTgsUptoRow.holds Try.pinned (OpenSpec.upto appTgsSpec)

/-- 'kerbsuitelaw10.AppDecodes', WHERE WHAT IT READS IS OF BULK AT MOST 1048576: true; the input reads as it did. -/
def appDecodesUptoRow : OpenClaim := { program := "ytjgiijcnhhnkkab", sum := "4f6f0065f6bb87b743f625eed7f70d07051f9318cac7de2fd5e08284635383d5", func := "kerbsuite/kerbsuitelaw10.AppDecodes", spec := "appDecodes", inPlace := ["internal/bytealg.IndexByteString", "internal/bytealg.IndexByte"], apart := false, narrowed := true }
def AppDecodesUptoSaid : Prop := appDecodesUptoRow.holds Try.pinned (OpenSpec.upto appDecodesSpec)

end Rows
end Go.Proofs.Ytjgiijcnhhnkkab
