/-
  No cell of these rows narrows 'for every input' (looked for: loops, veiled, ifaces, maps, wideKeys, modest, calm, conditions, laid).
  DERIVED. THE GIVEN ROWS OF THIS SEAT. 12 by the template 'for every input the law returns true; each argument reads behind the call as it read before'; 0 by the template 'total and deterministic' (their statements: YtcmcjiacpahliabTotals.lean).
  GIVEN WITH THE SEED: the statements are not yours to turn. If you find one false, say at which input.
  Laid BY PROGRAM, IN A SANDBOX (cutbox-rows.mjs): the forced cells as the released guide's own fill.sh prints them over the translation a9433bd5514053ec… (all of the seat's roots in one cut). By AI agents, Wed Nov 11 2026. No macro, syntax, notation, axiom, sorry.
-/
import Derived.Test.YtcmcjiacpahliabChecked
import GoSem.Claim
import GoSem.ClaimJoined
import GoSem.ClaimMapViews
import Derived.JoinedTies
import Derived.KernelRfl
namespace Go.Proofs.Ytcmcjiacpahliab
/- THE CELL 'sum', in the pinned program and in every row, IS THE sha256 OF THE DUMP (.gsa) THAT YtcmcjiacpahliabProg.lean LOADS. Nothing in Lean hashes anything: it is a label: what it is worth is what the hold of that sum in a sandbox is worth. -/
noncomputable def Try.pinned : Pinned := { name := "ytcmcjiacpahliab", sum := "a9433bd5514053eca07933abf1998256e7b83140798151d52a5eff7d10121f5e", checked := Try.checked }
namespace Rows
def none {H : Type} : Left H := { results := [], args := [] }

/-- 'kerbsuitelaw13.SrvtabChecks': WHATEVER THE INPUT: true; the input reads as it did. -/
def srvtabChecksSpec : ChangeSpec := { name := "srvtabChecks", fn := fun _ => fun
  | [d1, d2, d3, d4, d5, d6] => { results := [.lit (.bool true)], args := [d1, d2, d3, d4, d5, d6] }
  | _ => none }
def srvtabChecksRow : OpenClaim := { program := "ytcmcjiacpahliab", sum := "a9433bd5514053eca07933abf1998256e7b83140798151d52a5eff7d10121f5e", func := "kerbsuite/kerbsuitelaw13.SrvtabChecks", spec := "srvtabChecks", inPlace := ["internal/bytealg.IndexByteString", "internal/bytealg.IndexByte"], apart := false }
def SrvtabChecksSaid : Prop := srvtabChecksRow.holds Try.pinned (OpenSpec.ofChange srvtabChecksSpec)

/-- ITS FALSE NEIGHBOUR: 'it returns false'. Refute it at one input. -/
def srvtabChecksWrong : ChangeSpec := { name := "srvtabChecks", fn := fun _ => fun
  | [d1, d2, d3, d4, d5, d6] => { results := [.lit (.bool false)], args := [d1, d2, d3, d4, d5, d6] }
  | _ => none }
def SrvtabChecksWrongFalsely : Prop := srvtabChecksRow.holds Try.pinned (OpenSpec.ofChange srvtabChecksWrong)

/-- 'kerbsuitelaw13.SrvtabDecodes': WHATEVER THE INPUT: true; the input reads as it did. -/
def srvtabDecodesSpec : ChangeSpec := { name := "srvtabDecodes", fn := fun _ => fun
  | [d1, d2, d3] => { results := [.lit (.bool true)], args := [d1, d2, d3] }
  | _ => none }
def srvtabDecodesRow : OpenClaim := { program := "ytcmcjiacpahliab", sum := "a9433bd5514053eca07933abf1998256e7b83140798151d52a5eff7d10121f5e", func := "kerbsuite/kerbsuitelaw13.SrvtabDecodes", spec := "srvtabDecodes", inPlace := ["internal/bytealg.IndexByteString", "internal/bytealg.IndexByte"], apart := false }
def SrvtabDecodesSaid : Prop := srvtabDecodesRow.holds Try.pinned (OpenSpec.ofChange srvtabDecodesSpec)

/-- ITS FALSE NEIGHBOUR: 'it returns false'. Refute it at one input. -/
def srvtabDecodesWrong : ChangeSpec := { name := "srvtabDecodes", fn := fun _ => fun
  | [d1, d2, d3] => { results := [.lit (.bool false)], args := [d1, d2, d3] }
  | _ => none }
def SrvtabDecodesWrongFalsely : Prop := srvtabDecodesRow.holds Try.pinned (OpenSpec.ofChange srvtabDecodesWrong)

/-- 'kerbsuitelaw15.CcacheChecks': WHATEVER THE INPUT: true; the input reads as it did. -/
def ccacheChecksSpec : ChangeSpec := { name := "ccacheChecks", fn := fun _ => fun
  | [d1, d2, d3, d4, d5, d6, d7] => { results := [.lit (.bool true)], args := [d1, d2, d3, d4, d5, d6, d7] }
  | _ => none }
def ccacheChecksRow : OpenClaim := { program := "ytcmcjiacpahliab", sum := "a9433bd5514053eca07933abf1998256e7b83140798151d52a5eff7d10121f5e", func := "kerbsuite/kerbsuitelaw15.CcacheChecks", spec := "ccacheChecks", inPlace := ["internal/bytealg.IndexByteString"], apart := false }
def CcacheChecksSaid : Prop := ccacheChecksRow.holds Try.pinned (OpenSpec.ofChange ccacheChecksSpec)

/-- ITS FALSE NEIGHBOUR: 'it returns false'. Refute it at one input. -/
def ccacheChecksWrong : ChangeSpec := { name := "ccacheChecks", fn := fun _ => fun
  | [d1, d2, d3, d4, d5, d6, d7] => { results := [.lit (.bool false)], args := [d1, d2, d3, d4, d5, d6, d7] }
  | _ => none }
def CcacheChecksWrongFalsely : Prop := ccacheChecksRow.holds Try.pinned (OpenSpec.ofChange ccacheChecksWrong)

/-- 'kerbsuitelaw15.CcacheStores': WHATEVER THE INPUT: true; the input reads as it did. -/
def ccacheStoresSpec : ChangeSpec := { name := "ccacheStores", fn := fun _ => fun
  | [d1, d2, d3, d4, d5, d6] => { results := [.lit (.bool true)], args := [d1, d2, d3, d4, d5, d6] }
  | _ => none }
def ccacheStoresRow : OpenClaim := { program := "ytcmcjiacpahliab", sum := "a9433bd5514053eca07933abf1998256e7b83140798151d52a5eff7d10121f5e", func := "kerbsuite/kerbsuitelaw15.CcacheStores", spec := "ccacheStores", inPlace := ["internal/bytealg.IndexByteString"], apart := false }
def CcacheStoresSaid : Prop := ccacheStoresRow.holds Try.pinned (OpenSpec.ofChange ccacheStoresSpec)

/-- ITS FALSE NEIGHBOUR: 'it returns false'. Refute it at one input. -/
def ccacheStoresWrong : ChangeSpec := { name := "ccacheStores", fn := fun _ => fun
  | [d1, d2, d3, d4, d5, d6] => { results := [.lit (.bool false)], args := [d1, d2, d3, d4, d5, d6] }
  | _ => none }
def CcacheStoresWrongFalsely : Prop := ccacheStoresRow.holds Try.pinned (OpenSpec.ofChange ccacheStoresWrong)

/-- 'kerbsuitelaw15.CcacheKeeps': WHATEVER THE INPUT: true; the input reads as it did. -/
def ccacheKeepsSpec : ChangeSpec := { name := "ccacheKeeps", fn := fun _ => fun
  | [d1, d2, d3] => { results := [.lit (.bool true)], args := [d1, d2, d3] }
  | _ => none }
def ccacheKeepsRow : OpenClaim := { program := "ytcmcjiacpahliab", sum := "a9433bd5514053eca07933abf1998256e7b83140798151d52a5eff7d10121f5e", func := "kerbsuite/kerbsuitelaw15.CcacheKeeps", spec := "ccacheKeeps", inPlace := ["internal/bytealg.IndexByteString"], apart := false }
def CcacheKeepsSaid : Prop := ccacheKeepsRow.holds Try.pinned (OpenSpec.ofChange ccacheKeepsSpec)

/-- ITS FALSE NEIGHBOUR: 'it returns false'. Refute it at one input. -/
def ccacheKeepsWrong : ChangeSpec := { name := "ccacheKeeps", fn := fun _ => fun
  | [d1, d2, d3] => { results := [.lit (.bool false)], args := [d1, d2, d3] }
  | _ => none }
def CcacheKeepsWrongFalsely : Prop := ccacheKeepsRow.holds Try.pinned (OpenSpec.ofChange ccacheKeepsWrong)

/-- 'kerbsuitelaw15.CcacheLives': WHATEVER THE INPUT: true; the input reads as it did. -/
def ccacheLivesSpec : ChangeSpec := { name := "ccacheLives", fn := fun _ => fun
  | [d1, d2, d3, d4, d5, d6] => { results := [.lit (.bool true)], args := [d1, d2, d3, d4, d5, d6] }
  | _ => none }
def ccacheLivesRow : OpenClaim := { program := "ytcmcjiacpahliab", sum := "a9433bd5514053eca07933abf1998256e7b83140798151d52a5eff7d10121f5e", func := "kerbsuite/kerbsuitelaw15.CcacheLives", spec := "ccacheLives", inPlace := ["internal/bytealg.IndexByteString"], apart := false }
def CcacheLivesSaid : Prop := ccacheLivesRow.holds Try.pinned (OpenSpec.ofChange ccacheLivesSpec)

/-- ITS FALSE NEIGHBOUR: 'it returns false'. Refute it at one input. -/
def ccacheLivesWrong : ChangeSpec := { name := "ccacheLives", fn := fun _ => fun
  | [d1, d2, d3, d4, d5, d6] => { results := [.lit (.bool false)], args := [d1, d2, d3, d4, d5, d6] }
  | _ => none }
def CcacheLivesWrongFalsely : Prop := ccacheLivesRow.holds Try.pinned (OpenSpec.ofChange ccacheLivesWrong)

/-- 'kerbsuitelaw15.CcacheExpires': WHATEVER THE INPUT: true; the input reads as it did. -/
def ccacheExpiresSpec : ChangeSpec := { name := "ccacheExpires", fn := fun _ => fun
  | [d1, d2, d3] => { results := [.lit (.bool true)], args := [d1, d2, d3] }
  | _ => none }
def ccacheExpiresRow : OpenClaim := { program := "ytcmcjiacpahliab", sum := "a9433bd5514053eca07933abf1998256e7b83140798151d52a5eff7d10121f5e", func := "kerbsuite/kerbsuitelaw15.CcacheExpires", spec := "ccacheExpires", inPlace := ["internal/bytealg.IndexByteString"], apart := false }
def CcacheExpiresSaid : Prop := ccacheExpiresRow.holds Try.pinned (OpenSpec.ofChange ccacheExpiresSpec)

/-- ITS FALSE NEIGHBOUR: 'it returns false'. Refute it at one input. -/
def ccacheExpiresWrong : ChangeSpec := { name := "ccacheExpires", fn := fun _ => fun
  | [d1, d2, d3] => { results := [.lit (.bool false)], args := [d1, d2, d3] }
  | _ => none }
def CcacheExpiresWrongFalsely : Prop := ccacheExpiresRow.holds Try.pinned (OpenSpec.ofChange ccacheExpiresWrong)

/-- 'kerbsuitelaw15.CcacheFiles': WHATEVER THE INPUT: true; the input reads as it did. -/
def ccacheFilesSpec : ChangeSpec := { name := "ccacheFiles", fn := fun _ => fun
  | [d1, d2, d3, d4, d5] => { results := [.lit (.bool true)], args := [d1, d2, d3, d4, d5] }
  | _ => none }
def ccacheFilesRow : OpenClaim := { program := "ytcmcjiacpahliab", sum := "a9433bd5514053eca07933abf1998256e7b83140798151d52a5eff7d10121f5e", func := "kerbsuite/kerbsuitelaw15.CcacheFiles", spec := "ccacheFiles", inPlace := ["internal/bytealg.IndexByteString", "internal/bytealg.IndexByte"], apart := false }
def CcacheFilesSaid : Prop := ccacheFilesRow.holds Try.pinned (OpenSpec.ofChange ccacheFilesSpec)

/-- ITS FALSE NEIGHBOUR: 'it returns false'. Refute it at one input. -/
def ccacheFilesWrong : ChangeSpec := { name := "ccacheFiles", fn := fun _ => fun
  | [d1, d2, d3, d4, d5] => { results := [.lit (.bool false)], args := [d1, d2, d3, d4, d5] }
  | _ => none }
def CcacheFilesWrongFalsely : Prop := ccacheFilesRow.holds Try.pinned (OpenSpec.ofChange ccacheFilesWrong)

/-- 'kerbsuitelaw11.ProtectEncodes': WHATEVER THE INPUT: true; the input reads as it did. -/
def protectEncodesSpec : ChangeSpec := { name := "protectEncodes", fn := fun _ => fun
  | [d1, d2, d3, d4, d5, d6, d7] => { results := [.lit (.bool true)], args := [d1, d2, d3, d4, d5, d6, d7] }
  | _ => none }
def protectEncodesRow : OpenClaim := { program := "ytcmcjiacpahliab", sum := "a9433bd5514053eca07933abf1998256e7b83140798151d52a5eff7d10121f5e", func := "kerbsuite/kerbsuitelaw11.ProtectEncodes", spec := "protectEncodes", apart := false }
def ProtectEncodesSaid : Prop := protectEncodesRow.holds Try.pinned (OpenSpec.ofChange protectEncodesSpec)

/-- ITS FALSE NEIGHBOUR: 'it returns false'. Refute it at one input. -/
def protectEncodesWrong : ChangeSpec := { name := "protectEncodes", fn := fun _ => fun
  | [d1, d2, d3, d4, d5, d6, d7] => { results := [.lit (.bool false)], args := [d1, d2, d3, d4, d5, d6, d7] }
  | _ => none }
def ProtectEncodesWrongFalsely : Prop := protectEncodesRow.holds Try.pinned (OpenSpec.ofChange protectEncodesWrong)

/-- 'kerbsuitelaw11.ProtectMakes': WHATEVER THE INPUT: true; the input reads as it did. -/
def protectMakesSpec : ChangeSpec := { name := "protectMakes", fn := fun _ => fun
  | [d1, d2, d3, d4, d5, d6] => { results := [.lit (.bool true)], args := [d1, d2, d3, d4, d5, d6] }
  | _ => none }
def protectMakesRow : OpenClaim := { program := "ytcmcjiacpahliab", sum := "a9433bd5514053eca07933abf1998256e7b83140798151d52a5eff7d10121f5e", func := "kerbsuite/kerbsuitelaw11.ProtectMakes", spec := "protectMakes", apart := false }
def ProtectMakesSaid : Prop := protectMakesRow.holds Try.pinned (OpenSpec.ofChange protectMakesSpec)

/-- ITS FALSE NEIGHBOUR: 'it returns false'. Refute it at one input. -/
def protectMakesWrong : ChangeSpec := { name := "protectMakes", fn := fun _ => fun
  | [d1, d2, d3, d4, d5, d6] => { results := [.lit (.bool false)], args := [d1, d2, d3, d4, d5, d6] }
  | _ => none }
def ProtectMakesWrongFalsely : Prop := protectMakesRow.holds Try.pinned (OpenSpec.ofChange protectMakesWrong)

/-- 'kerbsuitelaw11.ProtectOpens': WHATEVER THE INPUT: true; the input reads as it did. -/
def protectOpensSpec : ChangeSpec := { name := "protectOpens", fn := fun _ => fun
  | [d1, d2, d3, d4, d5, d6, d7, d8] => { results := [.lit (.bool true)], args := [d1, d2, d3, d4, d5, d6, d7, d8] }
  | _ => none }
def protectOpensRow : OpenClaim := { program := "ytcmcjiacpahliab", sum := "a9433bd5514053eca07933abf1998256e7b83140798151d52a5eff7d10121f5e", func := "kerbsuite/kerbsuitelaw11.ProtectOpens", spec := "protectOpens", apart := false }
def ProtectOpensSaid : Prop := protectOpensRow.holds Try.pinned (OpenSpec.ofChange protectOpensSpec)

/-- ITS FALSE NEIGHBOUR: 'it returns false'. Refute it at one input. -/
def protectOpensWrong : ChangeSpec := { name := "protectOpens", fn := fun _ => fun
  | [d1, d2, d3, d4, d5, d6, d7, d8] => { results := [.lit (.bool false)], args := [d1, d2, d3, d4, d5, d6, d7, d8] }
  | _ => none }
def ProtectOpensWrongFalsely : Prop := protectOpensRow.holds Try.pinned (OpenSpec.ofChange protectOpensWrong)

/-- 'kerbsuitelaw11.ProtectBinds': WHATEVER THE INPUT: true; the input reads as it did. -/
def protectBindsSpec : ChangeSpec := { name := "protectBinds", fn := fun _ => fun
  | [d1, d2, d3, d4, d5, d6, d7, d8] => { results := [.lit (.bool true)], args := [d1, d2, d3, d4, d5, d6, d7, d8] }
  | _ => none }
def protectBindsRow : OpenClaim := { program := "ytcmcjiacpahliab", sum := "a9433bd5514053eca07933abf1998256e7b83140798151d52a5eff7d10121f5e", func := "kerbsuite/kerbsuitelaw11.ProtectBinds", spec := "protectBinds", apart := false }
def ProtectBindsSaid : Prop := protectBindsRow.holds Try.pinned (OpenSpec.ofChange protectBindsSpec)

/-- ITS FALSE NEIGHBOUR: 'it returns false'. Refute it at one input. -/
def protectBindsWrong : ChangeSpec := { name := "protectBinds", fn := fun _ => fun
  | [d1, d2, d3, d4, d5, d6, d7, d8] => { results := [.lit (.bool false)], args := [d1, d2, d3, d4, d5, d6, d7, d8] }
  | _ => none }
def ProtectBindsWrongFalsely : Prop := protectBindsRow.holds Try.pinned (OpenSpec.ofChange protectBindsWrong)

/- THE SECOND FORM. 'bulk': how many values and letters a reading holds, each counted each time it is reached (what is shared counts as often as it is met; a slice's spare places count too). A statement '..UptoSaid' is the law's where the arguments, and the package variables that the reading takes, are together of bulk at most 1048576: NARROWER than '..Said'. Prove '..Said' where nothing that the law and all that it calls make is longer than what came in: it says more and counts as full. Else prove '..UptoSaid'. A law counts once. -/
mutual
def uptoBulk {H : Type} : DataW H → Nat
  | .lit (.string bytes) => bytes.length + 1
  | .lit _ => 1
  | .nil => 1
  | .ptr d => uptoBulk d + 1
  | .slice elems spare => uptoBulkAll elems + uptoBulkAll spare + 1
  | .agg parts => uptoBulkAll parts + 1
  | .iface _ d => uptoBulk d + 1
  | .map entries => uptoBulkEntries entries + 1
  | .held _ => 1
def uptoBulkAll {H : Type} : List (DataW H) → Nat
  | [] => 0
  | d :: r => uptoBulk d + uptoBulkAll r
def uptoBulkEntries {H : Type} : List (Lit × DataW H) → Nat
  | [] => 0
  | x :: r => uptoBulkEntry x + uptoBulkEntries r
def uptoBulkEntry {H : Type} : Lit × DataW H → Nat
  | (.string bytes, d) => bytes.length + uptoBulk d + 1
  | (_, d) => uptoBulk d + 1
 end
def uptoSmall : (H : Type) → List (DataW H) → Bool := fun _ ds => decide (uptoBulkAll ds ≤ 1048576)
def OpenSpec.upto (s : _root_.Go.ChangeSpec) : _root_.Go.OpenSpec := { _root_.Go.OpenSpec.ofChange s with cond := some uptoSmall }

/-- 'kerbsuitelaw13.SrvtabChecks', WHERE WHAT IT READS IS OF BULK AT MOST 1048576: true; the input reads as it did. -/
def srvtabChecksUptoRow : OpenClaim := { program := "ytcmcjiacpahliab", sum := "a9433bd5514053eca07933abf1998256e7b83140798151d52a5eff7d10121f5e", func := "kerbsuite/kerbsuitelaw13.SrvtabChecks", spec := "srvtabChecks", inPlace := ["internal/bytealg.IndexByteString", "internal/bytealg.IndexByte"], apart := false, narrowed := true }
def SrvtabChecksUptoSaid : Prop := srvtabChecksUptoRow.holds Try.pinned (OpenSpec.upto srvtabChecksSpec)

/-- 'kerbsuitelaw13.SrvtabDecodes', WHERE WHAT IT READS IS OF BULK AT MOST 1048576: true; the input reads as it did. -/
def srvtabDecodesUptoRow : OpenClaim := { program := "ytcmcjiacpahliab", sum := "a9433bd5514053eca07933abf1998256e7b83140798151d52a5eff7d10121f5e", func := "kerbsuite/kerbsuitelaw13.SrvtabDecodes", spec := "srvtabDecodes", inPlace := ["internal/bytealg.IndexByteString", "internal/bytealg.IndexByte"], apart := false, narrowed := true }
def SrvtabDecodesUptoSaid : Prop := srvtabDecodesUptoRow.holds Try.pinned (OpenSpec.upto srvtabDecodesSpec)

/-- 'kerbsuitelaw15.CcacheChecks', WHERE WHAT IT READS IS OF BULK AT MOST 1048576: true; the input reads as it did. -/
def ccacheChecksUptoRow : OpenClaim := { program := "ytcmcjiacpahliab", sum := "a9433bd5514053eca07933abf1998256e7b83140798151d52a5eff7d10121f5e", func := "kerbsuite/kerbsuitelaw15.CcacheChecks", spec := "ccacheChecks", inPlace := ["internal/bytealg.IndexByteString"], apart := false, narrowed := true }
def CcacheChecksUptoSaid : Prop := ccacheChecksUptoRow.holds Try.pinned (OpenSpec.upto ccacheChecksSpec)

/-- 'kerbsuitelaw15.CcacheStores', WHERE WHAT IT READS IS OF BULK AT MOST 1048576: true; the input reads as it did. -/
def ccacheStoresUptoRow : OpenClaim := { program := "ytcmcjiacpahliab", sum := "a9433bd5514053eca07933abf1998256e7b83140798151d52a5eff7d10121f5e", func := "kerbsuite/kerbsuitelaw15.CcacheStores", spec := "ccacheStores", inPlace := ["internal/bytealg.IndexByteString"], apart := false, narrowed := true }
def CcacheStoresUptoSaid : Prop := ccacheStoresUptoRow.holds Try.pinned (OpenSpec.upto ccacheStoresSpec)

/-- 'kerbsuitelaw15.CcacheKeeps', WHERE WHAT IT READS IS OF BULK AT MOST 1048576: true; the input reads as it did. -/
def ccacheKeepsUptoRow : OpenClaim := { program := "ytcmcjiacpahliab", sum := "a9433bd5514053eca07933abf1998256e7b83140798151d52a5eff7d10121f5e", func := "kerbsuite/kerbsuitelaw15.CcacheKeeps", spec := "ccacheKeeps", inPlace := ["internal/bytealg.IndexByteString"], apart := false, narrowed := true }
def CcacheKeepsUptoSaid : Prop := ccacheKeepsUptoRow.holds Try.pinned (OpenSpec.upto ccacheKeepsSpec)

/-- 'kerbsuitelaw15.CcacheLives', WHERE WHAT IT READS IS OF BULK AT MOST 1048576: true; the input reads as it did. -/
def ccacheLivesUptoRow : OpenClaim := { program := "ytcmcjiacpahliab", sum := "a9433bd5514053eca07933abf1998256e7b83140798151d52a5eff7d10121f5e", func := "kerbsuite/kerbsuitelaw15.CcacheLives", spec := "ccacheLives", inPlace := ["internal/bytealg.IndexByteString"], apart := false, narrowed := true }
def CcacheLivesUptoSaid : Prop := ccacheLivesUptoRow.holds Try.pinned (OpenSpec.upto ccacheLivesSpec)

/-- 'kerbsuitelaw15.CcacheExpires', WHERE WHAT IT READS IS OF BULK AT MOST 1048576: true; the input reads as it did. -/
def ccacheExpiresUptoRow : OpenClaim := { program := "ytcmcjiacpahliab", sum := "a9433bd5514053eca07933abf1998256e7b83140798151d52a5eff7d10121f5e", func := "kerbsuite/kerbsuitelaw15.CcacheExpires", spec := "ccacheExpires", inPlace := ["internal/bytealg.IndexByteString"], apart := false, narrowed := true }
def CcacheExpiresUptoSaid : Prop := ccacheExpiresUptoRow.holds Try.pinned (OpenSpec.upto ccacheExpiresSpec)

/-- 'kerbsuitelaw15.CcacheFiles', WHERE WHAT IT READS IS OF BULK AT MOST 1048576: true; the input reads as it did. -/
def ccacheFilesUptoRow : OpenClaim := { program := "ytcmcjiacpahliab", sum := "a9433bd5514053eca07933abf1998256e7b83140798151d52a5eff7d10121f5e", func := "kerbsuite/kerbsuitelaw15.CcacheFiles", spec := "ccacheFiles", inPlace := ["internal/bytealg.IndexByteString", "internal/bytealg.IndexByte"], apart := false, narrowed := true }
def CcacheFilesUptoSaid : Prop := ccacheFilesUptoRow.holds Try.pinned (OpenSpec.upto ccacheFilesSpec)

/-- 'kerbsuitelaw11.ProtectEncodes', WHERE WHAT IT READS IS OF BULK AT MOST 1048576: true; the input reads as it did. -/
def protectEncodesUptoRow : OpenClaim := { program := "ytcmcjiacpahliab", sum := "a9433bd5514053eca07933abf1998256e7b83140798151d52a5eff7d10121f5e", func := "kerbsuite/kerbsuitelaw11.ProtectEncodes", spec := "protectEncodes", apart := false, narrowed := true }
def ProtectEncodesUptoSaid : Prop := protectEncodesUptoRow.holds Try.pinned (OpenSpec.upto protectEncodesSpec)

/-- 'kerbsuitelaw11.ProtectMakes', WHERE WHAT IT READS IS OF BULK AT MOST 1048576: true; the input reads as it did. -/
def protectMakesUptoRow : OpenClaim := { program := "ytcmcjiacpahliab", sum := "a9433bd5514053eca07933abf1998256e7b83140798151d52a5eff7d10121f5e", func := "kerbsuite/kerbsuitelaw11.ProtectMakes", spec := "protectMakes", apart := false, narrowed := true }
def ProtectMakesUptoSaid : Prop := protectMakesUptoRow.holds Try.pinned (OpenSpec.upto protectMakesSpec)

/-- 'kerbsuitelaw11.ProtectOpens', WHERE WHAT IT READS IS OF BULK AT MOST 1048576: true; the input reads as it did. -/
def protectOpensUptoRow : OpenClaim := { program := "ytcmcjiacpahliab", sum := "a9433bd5514053eca07933abf1998256e7b83140798151d52a5eff7d10121f5e", func := "kerbsuite/kerbsuitelaw11.ProtectOpens", spec := "protectOpens", apart := false, narrowed := true }
def ProtectOpensUptoSaid : Prop := protectOpensUptoRow.holds Try.pinned (OpenSpec.upto protectOpensSpec)

/-- 'kerbsuitelaw11.ProtectBinds', WHERE WHAT IT READS IS OF BULK AT MOST 1048576: true; the input reads as it did. -/
def protectBindsUptoRow : OpenClaim := { program := "ytcmcjiacpahliab", sum := "a9433bd5514053eca07933abf1998256e7b83140798151d52a5eff7d10121f5e", func := "kerbsuite/kerbsuitelaw11.ProtectBinds", spec := "protectBinds", apart := false, narrowed := true }
def ProtectBindsUptoSaid : Prop := protectBindsUptoRow.holds Try.pinned (OpenSpec.upto protectBindsSpec)

end Rows
end Go.Proofs.Ytcmcjiacpahliab
