/-
  No cell of these rows narrows 'for every input' (looked for: loops, veiled, ifaces, maps, wideKeys, modest, calm, conditions, laid).
  DERIVED. THE GIVEN ROWS OF THIS SEAT. 12 by the template 'for every input the law returns true; each argument reads behind the call as it read before'; 0 by the template 'total and deterministic' (their statements: YtcmcjiacpahliaaTotals.lean).
  GIVEN WITH THE SEED: the statements are not yours to turn. If you find one false, say at which input.
  Laid BY PROGRAM, IN A SANDBOX (cutbox-rows.mjs): the forced cells as the released guide's own fill.sh prints them over the translation e0208aab9c6e7abe… (all of the seat's roots in one cut). By AI agents, Wed Nov 11 2026. No macro, syntax, notation, axiom, sorry.
-/
import Derived.Test.YtcmcjiacpahliaaChecked
import GoSem.Claim
import GoSem.ClaimJoined
import GoSem.ClaimMapViews
import Derived.JoinedTies
import Derived.KernelRfl
namespace Go.Proofs.Ytcmcjiacpahliaa
/- THE CELL 'sum', in the pinned program and in every row, IS THE sha256 OF THE DUMP (.gsa) THAT YtcmcjiacpahliaaProg.lean LOADS. Nothing in Lean hashes anything: it is a label: what it is worth is what the hold of that sum in a sandbox is worth. -/
noncomputable def Try.pinned : Pinned := { name := "ytcmcjiacpahliaa", sum := "e0208aab9c6e7abee6b0e0b798a24196de0bcd27c3cc7913b9701497d1b09e43", checked := Try.checked }
namespace Rows
def none {H : Type} : Left H := { results := [], args := [] }

/-- 'kerbsuitelaw26.ConverterConverts': WHATEVER THE INPUT: true; the input reads as it did. -/
def converterConvertsSpec : ChangeSpec := { name := "converterConverts", fn := fun _ => fun
  | [d1, d2, d3, d4, d5, d6, d7] => { results := [.lit (.bool true)], args := [d1, d2, d3, d4, d5, d6, d7] }
  | _ => none }
def converterConvertsRow : OpenClaim := { program := "ytcmcjiacpahliaa", sum := "e0208aab9c6e7abee6b0e0b798a24196de0bcd27c3cc7913b9701497d1b09e43", func := "kerbsuite/kerbsuitelaw26.ConverterConverts", spec := "converterConverts", inPlace := ["internal/bytealg.IndexByteString"], apart := false }
def ConverterConvertsSaid : Prop := converterConvertsRow.holds Try.pinned (OpenSpec.ofChange converterConvertsSpec)

/-- ITS FALSE NEIGHBOUR: 'it returns false'. Refute it at one input. -/
def converterConvertsWrong : ChangeSpec := { name := "converterConverts", fn := fun _ => fun
  | [d1, d2, d3, d4, d5, d6, d7] => { results := [.lit (.bool false)], args := [d1, d2, d3, d4, d5, d6, d7] }
  | _ => none }
def ConverterConvertsWrongFalsely : Prop := converterConvertsRow.holds Try.pinned (OpenSpec.ofChange converterConvertsWrong)

/-- 'kerbsuitelaw26.ConverterBounds': WHATEVER THE INPUT: true; the input reads as it did. -/
def converterBoundsSpec : ChangeSpec := { name := "converterBounds", fn := fun _ => fun
  | [d1, d2, d3, d4, d5, d6] => { results := [.lit (.bool true)], args := [d1, d2, d3, d4, d5, d6] }
  | _ => none }
def converterBoundsRow : OpenClaim := { program := "ytcmcjiacpahliaa", sum := "e0208aab9c6e7abee6b0e0b798a24196de0bcd27c3cc7913b9701497d1b09e43", func := "kerbsuite/kerbsuitelaw26.ConverterBounds", spec := "converterBounds", inPlace := ["internal/bytealg.IndexByteString"], apart := false }
def ConverterBoundsSaid : Prop := converterBoundsRow.holds Try.pinned (OpenSpec.ofChange converterBoundsSpec)

/-- ITS FALSE NEIGHBOUR: 'it returns false'. Refute it at one input. -/
def converterBoundsWrong : ChangeSpec := { name := "converterBounds", fn := fun _ => fun
  | [d1, d2, d3, d4, d5, d6] => { results := [.lit (.bool false)], args := [d1, d2, d3, d4, d5, d6] }
  | _ => none }
def ConverterBoundsWrongFalsely : Prop := converterBoundsRow.holds Try.pinned (OpenSpec.ofChange converterBoundsWrong)

/-- 'kerbsuitelaw13.SrvtabFinds': WHATEVER THE INPUT: true; the input reads as it did. -/
def srvtabFindsSpec : ChangeSpec := { name := "srvtabFinds", fn := fun _ => fun
  | [d1, d2, d3, d4, d5, d6, d7, d8] => { results := [.lit (.bool true)], args := [d1, d2, d3, d4, d5, d6, d7, d8] }
  | _ => none }
def srvtabFindsRow : OpenClaim := { program := "ytcmcjiacpahliaa", sum := "e0208aab9c6e7abee6b0e0b798a24196de0bcd27c3cc7913b9701497d1b09e43", func := "kerbsuite/kerbsuitelaw13.SrvtabFinds", spec := "srvtabFinds", inPlace := ["internal/bytealg.IndexByteString"], apart := false }
def SrvtabFindsSaid : Prop := srvtabFindsRow.holds Try.pinned (OpenSpec.ofChange srvtabFindsSpec)

/-- ITS FALSE NEIGHBOUR: 'it returns false'. Refute it at one input. -/
def srvtabFindsWrong : ChangeSpec := { name := "srvtabFinds", fn := fun _ => fun
  | [d1, d2, d3, d4, d5, d6, d7, d8] => { results := [.lit (.bool false)], args := [d1, d2, d3, d4, d5, d6, d7, d8] }
  | _ => none }
def SrvtabFindsWrongFalsely : Prop := srvtabFindsRow.holds Try.pinned (OpenSpec.ofChange srvtabFindsWrong)

/-- 'kerbsuitelaw13.SrvtabLatest': WHATEVER THE INPUT: true; the input reads as it did. -/
def srvtabLatestSpec : ChangeSpec := { name := "srvtabLatest", fn := fun _ => fun
  | [d1, d2, d3, d4] => { results := [.lit (.bool true)], args := [d1, d2, d3, d4] }
  | _ => none }
def srvtabLatestRow : OpenClaim := { program := "ytcmcjiacpahliaa", sum := "e0208aab9c6e7abee6b0e0b798a24196de0bcd27c3cc7913b9701497d1b09e43", func := "kerbsuite/kerbsuitelaw13.SrvtabLatest", spec := "srvtabLatest", inPlace := ["internal/bytealg.IndexByteString"], apart := false }
def SrvtabLatestSaid : Prop := srvtabLatestRow.holds Try.pinned (OpenSpec.ofChange srvtabLatestSpec)

/-- ITS FALSE NEIGHBOUR: 'it returns false'. Refute it at one input. -/
def srvtabLatestWrong : ChangeSpec := { name := "srvtabLatest", fn := fun _ => fun
  | [d1, d2, d3, d4] => { results := [.lit (.bool false)], args := [d1, d2, d3, d4] }
  | _ => none }
def SrvtabLatestWrongFalsely : Prop := srvtabLatestRow.holds Try.pinned (OpenSpec.ofChange srvtabLatestWrong)

/-- 'kerbsuitelaw7.AuthenticatorSeals': WHATEVER THE INPUT: true; the input reads as it did. -/
def authenticatorSealsSpec : ChangeSpec := { name := "authenticatorSeals", fn := fun _ => fun
  | [d1, d2, d3, d4, d5, d6, d7] => { results := [.lit (.bool true)], args := [d1, d2, d3, d4, d5, d6, d7] }
  | _ => none }
def authenticatorSealsRow : OpenClaim := { program := "ytcmcjiacpahliaa", sum := "e0208aab9c6e7abee6b0e0b798a24196de0bcd27c3cc7913b9701497d1b09e43", func := "kerbsuite/kerbsuitelaw7.AuthenticatorSeals", spec := "authenticatorSeals", inPlace := ["internal/bytealg.IndexByteString", "internal/bytealg.IndexByte"], apart := false }
def AuthenticatorSealsSaid : Prop := authenticatorSealsRow.holds Try.pinned (OpenSpec.ofChange authenticatorSealsSpec)

/-- ITS FALSE NEIGHBOUR: 'it returns false'. Refute it at one input. -/
def authenticatorSealsWrong : ChangeSpec := { name := "authenticatorSeals", fn := fun _ => fun
  | [d1, d2, d3, d4, d5, d6, d7] => { results := [.lit (.bool false)], args := [d1, d2, d3, d4, d5, d6, d7] }
  | _ => none }
def AuthenticatorSealsWrongFalsely : Prop := authenticatorSealsRow.holds Try.pinned (OpenSpec.ofChange authenticatorSealsWrong)

/-- 'kerbsuitelaw7.AuthenticatorBinds': WHATEVER THE INPUT: true; the input reads as it did. -/
def authenticatorBindsSpec : ChangeSpec := { name := "authenticatorBinds", fn := fun _ => fun
  | [d1, d2, d3, d4, d5] => { results := [.lit (.bool true)], args := [d1, d2, d3, d4, d5] }
  | _ => none }
def authenticatorBindsRow : OpenClaim := { program := "ytcmcjiacpahliaa", sum := "e0208aab9c6e7abee6b0e0b798a24196de0bcd27c3cc7913b9701497d1b09e43", func := "kerbsuite/kerbsuitelaw7.AuthenticatorBinds", spec := "authenticatorBinds", inPlace := ["internal/bytealg.IndexByteString", "internal/bytealg.IndexByte"], apart := false }
def AuthenticatorBindsSaid : Prop := authenticatorBindsRow.holds Try.pinned (OpenSpec.ofChange authenticatorBindsSpec)

/-- ITS FALSE NEIGHBOUR: 'it returns false'. Refute it at one input. -/
def authenticatorBindsWrong : ChangeSpec := { name := "authenticatorBinds", fn := fun _ => fun
  | [d1, d2, d3, d4, d5] => { results := [.lit (.bool false)], args := [d1, d2, d3, d4, d5] }
  | _ => none }
def AuthenticatorBindsWrongFalsely : Prop := authenticatorBindsRow.holds Try.pinned (OpenSpec.ofChange authenticatorBindsWrong)

/-- 'kerbsuitelaw6.TicketSeals': WHATEVER THE INPUT: true; the input reads as it did. -/
def ticketSealsSpec : ChangeSpec := { name := "ticketSeals", fn := fun _ => fun
  | [d1, d2, d3, d4, d5, d6] => { results := [.lit (.bool true)], args := [d1, d2, d3, d4, d5, d6] }
  | _ => none }
def ticketSealsRow : OpenClaim := { program := "ytcmcjiacpahliaa", sum := "e0208aab9c6e7abee6b0e0b798a24196de0bcd27c3cc7913b9701497d1b09e43", func := "kerbsuite/kerbsuitelaw6.TicketSeals", spec := "ticketSeals", inPlace := ["internal/bytealg.IndexByteString", "internal/bytealg.IndexByte"], apart := false }
def TicketSealsSaid : Prop := ticketSealsRow.holds Try.pinned (OpenSpec.ofChange ticketSealsSpec)

/-- ITS FALSE NEIGHBOUR: 'it returns false'. Refute it at one input. -/
def ticketSealsWrong : ChangeSpec := { name := "ticketSeals", fn := fun _ => fun
  | [d1, d2, d3, d4, d5, d6] => { results := [.lit (.bool false)], args := [d1, d2, d3, d4, d5, d6] }
  | _ => none }
def TicketSealsWrongFalsely : Prop := ticketSealsRow.holds Try.pinned (OpenSpec.ofChange ticketSealsWrong)

/-- 'kerbsuitelaw6.TicketOpens': WHATEVER THE INPUT: true; the input reads as it did. -/
def ticketOpensSpec : ChangeSpec := { name := "ticketOpens", fn := fun _ => fun
  | [d1, d2, d3] => { results := [.lit (.bool true)], args := [d1, d2, d3] }
  | _ => none }
def ticketOpensRow : OpenClaim := { program := "ytcmcjiacpahliaa", sum := "e0208aab9c6e7abee6b0e0b798a24196de0bcd27c3cc7913b9701497d1b09e43", func := "kerbsuite/kerbsuitelaw6.TicketOpens", spec := "ticketOpens", inPlace := ["internal/bytealg.IndexByteString", "internal/bytealg.IndexByte"], apart := false }
def TicketOpensSaid : Prop := ticketOpensRow.holds Try.pinned (OpenSpec.ofChange ticketOpensSpec)

/-- ITS FALSE NEIGHBOUR: 'it returns false'. Refute it at one input. -/
def ticketOpensWrong : ChangeSpec := { name := "ticketOpens", fn := fun _ => fun
  | [d1, d2, d3] => { results := [.lit (.bool false)], args := [d1, d2, d3] }
  | _ => none }
def TicketOpensWrongFalsely : Prop := ticketOpensRow.holds Try.pinned (OpenSpec.ofChange ticketOpensWrong)

/-- 'kerbsuitelaw10.AppAnswers': WHATEVER THE INPUT: true; the input reads as it did. -/
def appAnswersSpec : ChangeSpec := { name := "appAnswers", fn := fun _ => fun
  | [d1, d2, d3, d4, d5, d6, d7] => { results := [.lit (.bool true)], args := [d1, d2, d3, d4, d5, d6, d7] }
  | _ => none }
def appAnswersRow : OpenClaim := { program := "ytcmcjiacpahliaa", sum := "e0208aab9c6e7abee6b0e0b798a24196de0bcd27c3cc7913b9701497d1b09e43", func := "kerbsuite/kerbsuitelaw10.AppAnswers", spec := "appAnswers", inPlace := ["internal/bytealg.IndexByteString"], apart := false }
def AppAnswersSaid : Prop := appAnswersRow.holds Try.pinned (OpenSpec.ofChange appAnswersSpec)

/-- ITS FALSE NEIGHBOUR: 'it returns false'. Refute it at one input. -/
def appAnswersWrong : ChangeSpec := { name := "appAnswers", fn := fun _ => fun
  | [d1, d2, d3, d4, d5, d6, d7] => { results := [.lit (.bool false)], args := [d1, d2, d3, d4, d5, d6, d7] }
  | _ => none }
def AppAnswersWrongFalsely : Prop := appAnswersRow.holds Try.pinned (OpenSpec.ofChange appAnswersWrong)

/-- 'kerbsuitelaw10.AppRequests': WHATEVER THE INPUT: true; the input reads as it did. -/
def appRequestsSpec : ChangeSpec := { name := "appRequests", fn := fun _ => fun
  | [d1, d2] => { results := [.lit (.bool true)], args := [d1, d2] }
  | _ => none }
def appRequestsRow : OpenClaim := { program := "ytcmcjiacpahliaa", sum := "e0208aab9c6e7abee6b0e0b798a24196de0bcd27c3cc7913b9701497d1b09e43", func := "kerbsuite/kerbsuitelaw10.AppRequests", spec := "appRequests", inPlace := ["internal/bytealg.IndexByteString", "internal/bytealg.IndexByte"], apart := false }
def AppRequestsSaid : Prop := appRequestsRow.holds Try.pinned (OpenSpec.ofChange appRequestsSpec)

/-- ITS FALSE NEIGHBOUR: 'it returns false'. Refute it at one input. -/
def appRequestsWrong : ChangeSpec := { name := "appRequests", fn := fun _ => fun
  | [d1, d2] => { results := [.lit (.bool false)], args := [d1, d2] }
  | _ => none }
def AppRequestsWrongFalsely : Prop := appRequestsRow.holds Try.pinned (OpenSpec.ofChange appRequestsWrong)

/-- 'kerbsuitelaw10.AppTgs': WHATEVER THE INPUT: true; the input reads as it did. -/
def appTgsSpec : ChangeSpec := { name := "appTgs", fn := fun _ => fun
  | [d1, d2, d3] => { results := [.lit (.bool true)], args := [d1, d2, d3] }
  | _ => none }
def appTgsRow : OpenClaim := { program := "ytcmcjiacpahliaa", sum := "e0208aab9c6e7abee6b0e0b798a24196de0bcd27c3cc7913b9701497d1b09e43", func := "kerbsuite/kerbsuitelaw10.AppTgs", spec := "appTgs", inPlace := ["internal/bytealg.IndexByteString", "internal/bytealg.IndexByte"], apart := false }
def AppTgsSaid : Prop := appTgsRow.holds Try.pinned (OpenSpec.ofChange appTgsSpec)

/-- ITS FALSE NEIGHBOUR: 'it returns false'. Refute it at one input. -/
def appTgsWrong : ChangeSpec := { name := "appTgs", fn := fun _ => fun
  | [d1, d2, d3] => { results := [.lit (.bool false)], args := [d1, d2, d3] }
  | _ => none }
def AppTgsWrongFalsely : Prop := appTgsRow.holds Try.pinned (OpenSpec.ofChange appTgsWrong)

/-- 'kerbsuitelaw10.AppDecodes': WHATEVER THE INPUT: true; the input reads as it did. -/
def appDecodesSpec : ChangeSpec := { name := "appDecodes", fn := fun _ => fun
  | [d1, d2, d3, d4, d5, d6, d7] => { results := [.lit (.bool true)], args := [d1, d2, d3, d4, d5, d6, d7] }
  | _ => none }
def appDecodesRow : OpenClaim := { program := "ytcmcjiacpahliaa", sum := "e0208aab9c6e7abee6b0e0b798a24196de0bcd27c3cc7913b9701497d1b09e43", func := "kerbsuite/kerbsuitelaw10.AppDecodes", spec := "appDecodes", inPlace := ["internal/bytealg.IndexByteString", "internal/bytealg.IndexByte"], apart := false }
def AppDecodesSaid : Prop := appDecodesRow.holds Try.pinned (OpenSpec.ofChange appDecodesSpec)

/-- ITS FALSE NEIGHBOUR: 'it returns false'. Refute it at one input. -/
def appDecodesWrong : ChangeSpec := { name := "appDecodes", fn := fun _ => fun
  | [d1, d2, d3, d4, d5, d6, d7] => { results := [.lit (.bool false)], args := [d1, d2, d3, d4, d5, d6, d7] }
  | _ => none }
def AppDecodesWrongFalsely : Prop := appDecodesRow.holds Try.pinned (OpenSpec.ofChange appDecodesWrong)

/- THE SECOND FORM. 'bulk': how many values and letters a reading holds, each counted each time it is reached (what is shared counts as often as it is met; a slice's spare places count too). A statement '..UptoSaid' is the law's where the arguments, and the package variables that the reading takes, are together of bulk at most 1048576: NARROWER than '..Said'. Prove '..Said' where nothing that the law and all that it calls make is longer than what came in: it says more and counts as full. Else prove '..UptoSaid'. A law counts once. -/
mutual
def uptoBulk {H : Type} : DataW H → Nat
  | .lit (.string bytes) => bytes.length + 1
  | .lit _ => 1
  | .nil => 1
  | .ptr d => uptoBulk d + 1
  | .slice elems spare => uptoBulkAll elems + uptoBulkAll spare + 1
  | .agg parts => uptoBulkAll parts + 1
  | .iface _ d => uptoBulk d + 1
  | .map entries => uptoBulkEntries entries + 1
  | .held _ => 1
def uptoBulkAll {H : Type} : List (DataW H) → Nat
  | [] => 0
  | d :: r => uptoBulk d + uptoBulkAll r
def uptoBulkEntries {H : Type} : List (Lit × DataW H) → Nat
  | [] => 0
  | x :: r => uptoBulkEntry x + uptoBulkEntries r
def uptoBulkEntry {H : Type} : Lit × DataW H → Nat
  | (.string bytes, d) => bytes.length + uptoBulk d + 1
  | (_, d) => uptoBulk d + 1
 end
def uptoSmall : (H : Type) → List (DataW H) → Bool := fun _ ds => decide (uptoBulkAll ds ≤ 1048576)
def OpenSpec.upto (s : _root_.Go.ChangeSpec) : _root_.Go.OpenSpec := { _root_.Go.OpenSpec.ofChange s with cond := some uptoSmall }

/-- 'kerbsuitelaw26.ConverterConverts', WHERE WHAT IT READS IS OF BULK AT MOST 1048576: true; the input reads as it did. -/
def converterConvertsUptoRow : OpenClaim := { program := "ytcmcjiacpahliaa", sum := "e0208aab9c6e7abee6b0e0b798a24196de0bcd27c3cc7913b9701497d1b09e43", func := "kerbsuite/kerbsuitelaw26.ConverterConverts", spec := "converterConverts", inPlace := ["internal/bytealg.IndexByteString"], apart := false, narrowed := true }
def ConverterConvertsUptoSaid : Prop := converterConvertsUptoRow.holds Try.pinned (OpenSpec.upto converterConvertsSpec)

/-- 'kerbsuitelaw26.ConverterBounds', WHERE WHAT IT READS IS OF BULK AT MOST 1048576: true; the input reads as it did. -/
def converterBoundsUptoRow : OpenClaim := { program := "ytcmcjiacpahliaa", sum := "e0208aab9c6e7abee6b0e0b798a24196de0bcd27c3cc7913b9701497d1b09e43", func := "kerbsuite/kerbsuitelaw26.ConverterBounds", spec := "converterBounds", inPlace := ["internal/bytealg.IndexByteString"], apart := false, narrowed := true }
def ConverterBoundsUptoSaid : Prop := converterBoundsUptoRow.holds Try.pinned (OpenSpec.upto converterBoundsSpec)

/-- 'kerbsuitelaw13.SrvtabFinds', WHERE WHAT IT READS IS OF BULK AT MOST 1048576: true; the input reads as it did. -/
def srvtabFindsUptoRow : OpenClaim := { program := "ytcmcjiacpahliaa", sum := "e0208aab9c6e7abee6b0e0b798a24196de0bcd27c3cc7913b9701497d1b09e43", func := "kerbsuite/kerbsuitelaw13.SrvtabFinds", spec := "srvtabFinds", inPlace := ["internal/bytealg.IndexByteString"], apart := false, narrowed := true }
def SrvtabFindsUptoSaid : Prop := srvtabFindsUptoRow.holds Try.pinned (OpenSpec.upto srvtabFindsSpec)

/-- 'kerbsuitelaw13.SrvtabLatest', WHERE WHAT IT READS IS OF BULK AT MOST 1048576: true; the input reads as it did. -/
def srvtabLatestUptoRow : OpenClaim := { program := "ytcmcjiacpahliaa", sum := "e0208aab9c6e7abee6b0e0b798a24196de0bcd27c3cc7913b9701497d1b09e43", func := "kerbsuite/kerbsuitelaw13.SrvtabLatest", spec := "srvtabLatest", inPlace := ["internal/bytealg.IndexByteString"], apart := false, narrowed := true }
def SrvtabLatestUptoSaid : Prop := srvtabLatestUptoRow.holds Try.pinned (OpenSpec.upto srvtabLatestSpec)

/-- 'kerbsuitelaw7.AuthenticatorSeals', WHERE WHAT IT READS IS OF BULK AT MOST 1048576: true; the input reads as it did. -/
def authenticatorSealsUptoRow : OpenClaim := { program := "ytcmcjiacpahliaa", sum := "e0208aab9c6e7abee6b0e0b798a24196de0bcd27c3cc7913b9701497d1b09e43", func := "kerbsuite/kerbsuitelaw7.AuthenticatorSeals", spec := "authenticatorSeals", inPlace := ["internal/bytealg.IndexByteString", "internal/bytealg.IndexByte"], apart := false, narrowed := true }
def AuthenticatorSealsUptoSaid : Prop := authenticatorSealsUptoRow.holds Try.pinned (OpenSpec.upto authenticatorSealsSpec)

/-- 'kerbsuitelaw7.AuthenticatorBinds', WHERE WHAT IT READS IS OF BULK AT MOST 1048576: true; the input reads as it did. -/
def authenticatorBindsUptoRow : OpenClaim := { program := "ytcmcjiacpahliaa", sum := "e0208aab9c6e7abee6b0e0b798a24196de0bcd27c3cc7913b9701497d1b09e43", func := "kerbsuite/kerbsuitelaw7.AuthenticatorBinds", spec := "authenticatorBinds", inPlace := ["internal/bytealg.IndexByteString", "internal/bytealg.IndexByte"], apart := false, narrowed := true }
def AuthenticatorBindsUptoSaid : Prop := authenticatorBindsUptoRow.holds Try.pinned (OpenSpec.upto authenticatorBindsSpec)

/-- 'kerbsuitelaw6.TicketSeals', WHERE WHAT IT READS IS OF BULK AT MOST 1048576: true; the input reads as it did. -/
def ticketSealsUptoRow : OpenClaim := { program := "ytcmcjiacpahliaa", sum := "e0208aab9c6e7abee6b0e0b798a24196de0bcd27c3cc7913b9701497d1b09e43", func := "kerbsuite/kerbsuitelaw6.TicketSeals", spec := "ticketSeals", inPlace := ["internal/bytealg.IndexByteString", "internal/bytealg.IndexByte"], apart := false, narrowed := true }
def TicketSealsUptoSaid : Prop := ticketSealsUptoRow.holds Try.pinned (OpenSpec.upto ticketSealsSpec)

/-- 'kerbsuitelaw6.TicketOpens', WHERE WHAT IT READS IS OF BULK AT MOST 1048576: true; the input reads as it did. -/
def ticketOpensUptoRow : OpenClaim := { program := "ytcmcjiacpahliaa", sum := "e0208aab9c6e7abee6b0e0b798a24196de0bcd27c3cc7913b9701497d1b09e43", func := "kerbsuite/kerbsuitelaw6.TicketOpens", spec := "ticketOpens", inPlace := ["internal/bytealg.IndexByteString", "internal/bytealg.IndexByte"], apart := false, narrowed := true }
def TicketOpensUptoSaid : Prop := ticketOpensUptoRow.holds Try.pinned (OpenSpec.upto ticketOpensSpec)

/-- 'kerbsuitelaw10.AppAnswers', WHERE WHAT IT READS IS OF BULK AT MOST 1048576: true; the input reads as it did. -/
def appAnswersUptoRow : OpenClaim := { program := "ytcmcjiacpahliaa", sum := "e0208aab9c6e7abee6b0e0b798a24196de0bcd27c3cc7913b9701497d1b09e43", func := "kerbsuite/kerbsuitelaw10.AppAnswers", spec := "appAnswers", inPlace := ["internal/bytealg.IndexByteString"], apart := false, narrowed := true }
def AppAnswersUptoSaid : Prop := appAnswersUptoRow.holds Try.pinned (OpenSpec.upto appAnswersSpec)

/-- 'kerbsuitelaw10.AppRequests', WHERE WHAT IT READS IS OF BULK AT MOST 1048576: true; the input reads as it did. -/
def appRequestsUptoRow : OpenClaim := { program := "ytcmcjiacpahliaa", sum := "e0208aab9c6e7abee6b0e0b798a24196de0bcd27c3cc7913b9701497d1b09e43", func := "kerbsuite/kerbsuitelaw10.AppRequests", spec := "appRequests", inPlace := ["internal/bytealg.IndexByteString", "internal/bytealg.IndexByte"], apart := false, narrowed := true }
def AppRequestsUptoSaid : Prop := appRequestsUptoRow.holds Try.pinned (OpenSpec.upto appRequestsSpec)

/-- 'kerbsuitelaw10.AppTgs', WHERE WHAT IT READS IS OF BULK AT MOST 1048576: true; the input reads as it did. -/
def appTgsUptoRow : OpenClaim := { program := "ytcmcjiacpahliaa", sum := "e0208aab9c6e7abee6b0e0b798a24196de0bcd27c3cc7913b9701497d1b09e43", func := "kerbsuite/kerbsuitelaw10.AppTgs", spec := "appTgs", inPlace := ["internal/bytealg.IndexByteString", "internal/bytealg.IndexByte"], apart := false, narrowed := true }
def AppTgsUptoSaid : Prop := appTgsUptoRow.holds Try.pinned (OpenSpec.upto appTgsSpec)

/-- 'kerbsuitelaw10.AppDecodes', WHERE WHAT IT READS IS OF BULK AT MOST 1048576: true; the input reads as it did. -/
def appDecodesUptoRow : OpenClaim := { program := "ytcmcjiacpahliaa", sum := "e0208aab9c6e7abee6b0e0b798a24196de0bcd27c3cc7913b9701497d1b09e43", func := "kerbsuite/kerbsuitelaw10.AppDecodes", spec := "appDecodes", inPlace := ["internal/bytealg.IndexByteString", "internal/bytealg.IndexByte"], apart := false, narrowed := true }
def AppDecodesUptoSaid : Prop := appDecodesUptoRow.holds Try.pinned (OpenSpec.upto appDecodesSpec)

end Rows
end Go.Proofs.Ytcmcjiacpahliaa
