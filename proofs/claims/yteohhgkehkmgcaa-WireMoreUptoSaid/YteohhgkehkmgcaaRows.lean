/-
  No cell of these rows narrows 'for every input' (looked for: loops, veiled, ifaces, maps, wideKeys, modest, calm, conditions, laid).
  DERIVED. THE GIVEN ROWS OF THIS SEAT. 11 by the template 'for every input the law returns true; each argument reads behind the call as it read before'; 0 by the template 'total and deterministic' (their statements: YteohhgkehkmgcaaTotals.lean).
  GIVEN WITH THE SEED: the statements are not yours to turn. If you find one false, say at which input.
  Laid BY PROGRAM, IN A SANDBOX (cutbox-rows.mjs): the forced cells as the released guide's own fill.sh prints them over the translation 6c540d7b8ac580e7… (all of the seat's roots in one cut). By AI agents, Wed Nov 11 2026. No macro, syntax, notation, axiom, sorry.
-/
import Derived.Test.YteohhgkehkmgcaaChecked
import GoSem.Claim
import GoSem.ClaimJoined
import GoSem.ClaimMapViews
import Derived.JoinedTies
import Derived.KernelRfl
namespace Go.Proofs.Yteohhgkehkmgcaa
/- THE CELL 'sum', in the pinned program and in every row, IS THE sha256 OF THE DUMP (.gsa) THAT YteohhgkehkmgcaaProg.lean LOADS. Nothing in Lean hashes anything: it is a label: what it is worth is what the hold of that sum in a sandbox is worth. -/
noncomputable def Try.pinned : Pinned := { name := "yteohhgkehkmgcaa", sum := "6c540d7b8ac580e75d6730b92ac4c143d939df7b91d20536e98bfb8ffef3bcaa", checked := Try.checked }
namespace Rows
def none {H : Type} : Left H := { results := [], args := [] }

/-- 'folkmootlaw03.WireRecords': WHATEVER THE INPUT: true; the input reads as it did. -/
def wireRecordsSpec : ChangeSpec := { name := "wireRecords", fn := fun _ => fun
  | [d] => { results := [.lit (.bool true)], args := [d] }
  | _ => none }
def wireRecordsRow : OpenClaim := { program := "yteohhgkehkmgcaa", sum := "6c540d7b8ac580e75d6730b92ac4c143d939df7b91d20536e98bfb8ffef3bcaa", func := "folkmoot/folkmootlaw03.WireRecords", spec := "wireRecords", unfollowed := true, recurses := true, apart := false }
def WireRecordsSaid : Prop := wireRecordsRow.holds Try.pinned (OpenSpec.ofChange wireRecordsSpec)

/-- ITS FALSE NEIGHBOUR: 'it returns false'. Refute it at one input. -/
def wireRecordsWrong : ChangeSpec := { name := "wireRecords", fn := fun _ => fun
  | [d] => { results := [.lit (.bool false)], args := [d] }
  | _ => none }
def WireRecordsWrongFalsely : Prop := wireRecordsRow.holds Try.pinned (OpenSpec.ofChange wireRecordsWrong)

/-- 'folkmootlaw03.WireOps': WHATEVER THE INPUT: true; the input reads as it did. -/
def wireOpsSpec : ChangeSpec := { name := "wireOps", fn := fun _ => fun
  | [d] => { results := [.lit (.bool true)], args := [d] }
  | _ => none }
def wireOpsRow : OpenClaim := { program := "yteohhgkehkmgcaa", sum := "6c540d7b8ac580e75d6730b92ac4c143d939df7b91d20536e98bfb8ffef3bcaa", func := "folkmoot/folkmootlaw03.WireOps", spec := "wireOps", unfollowed := true, recurses := true, apart := false }
def WireOpsSaid : Prop := wireOpsRow.holds Try.pinned (OpenSpec.ofChange wireOpsSpec)

/-- ITS FALSE NEIGHBOUR: 'it returns false'. Refute it at one input. -/
def wireOpsWrong : ChangeSpec := { name := "wireOps", fn := fun _ => fun
  | [d] => { results := [.lit (.bool false)], args := [d] }
  | _ => none }
def WireOpsWrongFalsely : Prop := wireOpsRow.holds Try.pinned (OpenSpec.ofChange wireOpsWrong)

/-- 'folkmootlaw03.WireOpBytes': WHATEVER THE INPUT: true; the input reads as it did. -/
def wireOpBytesSpec : ChangeSpec := { name := "wireOpBytes", fn := fun _ => fun
  | [d] => { results := [.lit (.bool true)], args := [d] }
  | _ => none }
def wireOpBytesRow : OpenClaim := { program := "yteohhgkehkmgcaa", sum := "6c540d7b8ac580e75d6730b92ac4c143d939df7b91d20536e98bfb8ffef3bcaa", func := "folkmoot/folkmootlaw03.WireOpBytes", spec := "wireOpBytes", unfollowed := true, recurses := true, apart := false }
def WireOpBytesSaid : Prop := wireOpBytesRow.holds Try.pinned (OpenSpec.ofChange wireOpBytesSpec)

/-- ITS FALSE NEIGHBOUR: 'it returns false'. Refute it at one input. -/
def wireOpBytesWrong : ChangeSpec := { name := "wireOpBytes", fn := fun _ => fun
  | [d] => { results := [.lit (.bool false)], args := [d] }
  | _ => none }
def WireOpBytesWrongFalsely : Prop := wireOpBytesRow.holds Try.pinned (OpenSpec.ofChange wireOpBytesWrong)

/-- 'folkmootlaw03.WireCommands': WHATEVER THE INPUT: true; the input reads as it did. -/
def wireCommandsSpec : ChangeSpec := { name := "wireCommands", fn := fun _ => fun
  | [d] => { results := [.lit (.bool true)], args := [d] }
  | _ => none }
def wireCommandsRow : OpenClaim := { program := "yteohhgkehkmgcaa", sum := "6c540d7b8ac580e75d6730b92ac4c143d939df7b91d20536e98bfb8ffef3bcaa", func := "folkmoot/folkmootlaw03.WireCommands", spec := "wireCommands", unfollowed := true, recurses := true, apart := false }
def WireCommandsSaid : Prop := wireCommandsRow.holds Try.pinned (OpenSpec.ofChange wireCommandsSpec)

/-- ITS FALSE NEIGHBOUR: 'it returns false'. Refute it at one input. -/
def wireCommandsWrong : ChangeSpec := { name := "wireCommands", fn := fun _ => fun
  | [d] => { results := [.lit (.bool false)], args := [d] }
  | _ => none }
def WireCommandsWrongFalsely : Prop := wireCommandsRow.holds Try.pinned (OpenSpec.ofChange wireCommandsWrong)

/-- 'folkmootlaw03.WireCommandBytes': WHATEVER THE INPUT: true; the input reads as it did. -/
def wireCommandBytesSpec : ChangeSpec := { name := "wireCommandBytes", fn := fun _ => fun
  | [d] => { results := [.lit (.bool true)], args := [d] }
  | _ => none }
def wireCommandBytesRow : OpenClaim := { program := "yteohhgkehkmgcaa", sum := "6c540d7b8ac580e75d6730b92ac4c143d939df7b91d20536e98bfb8ffef3bcaa", func := "folkmoot/folkmootlaw03.WireCommandBytes", spec := "wireCommandBytes", unfollowed := true, recurses := true, apart := false }
def WireCommandBytesSaid : Prop := wireCommandBytesRow.holds Try.pinned (OpenSpec.ofChange wireCommandBytesSpec)

/-- ITS FALSE NEIGHBOUR: 'it returns false'. Refute it at one input. -/
def wireCommandBytesWrong : ChangeSpec := { name := "wireCommandBytes", fn := fun _ => fun
  | [d] => { results := [.lit (.bool false)], args := [d] }
  | _ => none }
def WireCommandBytesWrongFalsely : Prop := wireCommandBytesRow.holds Try.pinned (OpenSpec.ofChange wireCommandBytesWrong)

/-- 'folkmootlaw03.WireRecordBytes': WHATEVER THE INPUT: true; the input reads as it did. -/
def wireRecordBytesSpec : ChangeSpec := { name := "wireRecordBytes", fn := fun _ => fun
  | [d] => { results := [.lit (.bool true)], args := [d] }
  | _ => none }
def wireRecordBytesRow : OpenClaim := { program := "yteohhgkehkmgcaa", sum := "6c540d7b8ac580e75d6730b92ac4c143d939df7b91d20536e98bfb8ffef3bcaa", func := "folkmoot/folkmootlaw03.WireRecordBytes", spec := "wireRecordBytes", unfollowed := true, recurses := true, apart := false }
def WireRecordBytesSaid : Prop := wireRecordBytesRow.holds Try.pinned (OpenSpec.ofChange wireRecordBytesSpec)

/-- ITS FALSE NEIGHBOUR: 'it returns false'. Refute it at one input. -/
def wireRecordBytesWrong : ChangeSpec := { name := "wireRecordBytes", fn := fun _ => fun
  | [d] => { results := [.lit (.bool false)], args := [d] }
  | _ => none }
def WireRecordBytesWrongFalsely : Prop := wireRecordBytesRow.holds Try.pinned (OpenSpec.ofChange wireRecordBytesWrong)

/-- 'folkmootlaw03.WireCatalogs': WHATEVER THE INPUT: true; the input reads as it did. -/
def wireCatalogsSpec : ChangeSpec := { name := "wireCatalogs", fn := fun _ => fun
  | [d] => { results := [.lit (.bool true)], args := [d] }
  | _ => none }
def wireCatalogsRow : OpenClaim := { program := "yteohhgkehkmgcaa", sum := "6c540d7b8ac580e75d6730b92ac4c143d939df7b91d20536e98bfb8ffef3bcaa", func := "folkmoot/folkmootlaw03.WireCatalogs", spec := "wireCatalogs", unfollowed := true, recurses := true, apart := false }
def WireCatalogsSaid : Prop := wireCatalogsRow.holds Try.pinned (OpenSpec.ofChange wireCatalogsSpec)

/-- ITS FALSE NEIGHBOUR: 'it returns false'. Refute it at one input. -/
def wireCatalogsWrong : ChangeSpec := { name := "wireCatalogs", fn := fun _ => fun
  | [d] => { results := [.lit (.bool false)], args := [d] }
  | _ => none }
def WireCatalogsWrongFalsely : Prop := wireCatalogsRow.holds Try.pinned (OpenSpec.ofChange wireCatalogsWrong)

/-- 'folkmootlaw03.WireCatalogBytes': WHATEVER THE INPUT: true; the input reads as it did. -/
def wireCatalogBytesSpec : ChangeSpec := { name := "wireCatalogBytes", fn := fun _ => fun
  | [d] => { results := [.lit (.bool true)], args := [d] }
  | _ => none }
def wireCatalogBytesRow : OpenClaim := { program := "yteohhgkehkmgcaa", sum := "6c540d7b8ac580e75d6730b92ac4c143d939df7b91d20536e98bfb8ffef3bcaa", func := "folkmoot/folkmootlaw03.WireCatalogBytes", spec := "wireCatalogBytes", unfollowed := true, recurses := true, apart := false }
def WireCatalogBytesSaid : Prop := wireCatalogBytesRow.holds Try.pinned (OpenSpec.ofChange wireCatalogBytesSpec)

/-- ITS FALSE NEIGHBOUR: 'it returns false'. Refute it at one input. -/
def wireCatalogBytesWrong : ChangeSpec := { name := "wireCatalogBytes", fn := fun _ => fun
  | [d] => { results := [.lit (.bool false)], args := [d] }
  | _ => none }
def WireCatalogBytesWrongFalsely : Prop := wireCatalogBytesRow.holds Try.pinned (OpenSpec.ofChange wireCatalogBytesWrong)

/-- 'folkmootlaw03.WireMachines': WHATEVER THE INPUT: true; the input reads as it did. -/
def wireMachinesSpec : ChangeSpec := { name := "wireMachines", fn := fun _ => fun
  | [d] => { results := [.lit (.bool true)], args := [d] }
  | _ => none }
def wireMachinesRow : OpenClaim := { program := "yteohhgkehkmgcaa", sum := "6c540d7b8ac580e75d6730b92ac4c143d939df7b91d20536e98bfb8ffef3bcaa", func := "folkmoot/folkmootlaw03.WireMachines", spec := "wireMachines", unfollowed := true, recurses := true, apart := false }
def WireMachinesSaid : Prop := wireMachinesRow.holds Try.pinned (OpenSpec.ofChange wireMachinesSpec)

/-- ITS FALSE NEIGHBOUR: 'it returns false'. Refute it at one input. -/
def wireMachinesWrong : ChangeSpec := { name := "wireMachines", fn := fun _ => fun
  | [d] => { results := [.lit (.bool false)], args := [d] }
  | _ => none }
def WireMachinesWrongFalsely : Prop := wireMachinesRow.holds Try.pinned (OpenSpec.ofChange wireMachinesWrong)

/-- 'folkmootlaw03.WireRound': WHATEVER THE INPUT: true; the input reads as it did. -/
def wireRoundSpec : ChangeSpec := { name := "wireRound", fn := fun _ => fun
  | [d1, d2, d3] => { results := [.lit (.bool true)], args := [d1, d2, d3] }
  | _ => none }
def wireRoundRow : OpenClaim := { program := "yteohhgkehkmgcaa", sum := "6c540d7b8ac580e75d6730b92ac4c143d939df7b91d20536e98bfb8ffef3bcaa", func := "folkmoot/folkmootlaw03.WireRound", spec := "wireRound", unfollowed := true, recurses := true, apart := false }
def WireRoundSaid : Prop := wireRoundRow.holds Try.pinned (OpenSpec.ofChange wireRoundSpec)

/-- ITS FALSE NEIGHBOUR: 'it returns false'. Refute it at one input. -/
def wireRoundWrong : ChangeSpec := { name := "wireRound", fn := fun _ => fun
  | [d1, d2, d3] => { results := [.lit (.bool false)], args := [d1, d2, d3] }
  | _ => none }
def WireRoundWrongFalsely : Prop := wireRoundRow.holds Try.pinned (OpenSpec.ofChange wireRoundWrong)

/-- 'folkmootlaw03.WireMore': WHATEVER THE INPUT: true; the input reads as it did. -/
def wireMoreSpec : ChangeSpec := { name := "wireMore", fn := fun _ => fun
  | [d1, d2] => { results := [.lit (.bool true)], args := [d1, d2] }
  | _ => none }
def wireMoreRow : OpenClaim := { program := "yteohhgkehkmgcaa", sum := "6c540d7b8ac580e75d6730b92ac4c143d939df7b91d20536e98bfb8ffef3bcaa", func := "folkmoot/folkmootlaw03.WireMore", spec := "wireMore", unfollowed := true, recurses := true, apart := false }
def WireMoreSaid : Prop := wireMoreRow.holds Try.pinned (OpenSpec.ofChange wireMoreSpec)

/-- ITS FALSE NEIGHBOUR: 'it returns false'. Refute it at one input. -/
def wireMoreWrong : ChangeSpec := { name := "wireMore", fn := fun _ => fun
  | [d1, d2] => { results := [.lit (.bool false)], args := [d1, d2] }
  | _ => none }
def WireMoreWrongFalsely : Prop := wireMoreRow.holds Try.pinned (OpenSpec.ofChange wireMoreWrong)

/- THE SECOND FORM. 'bulk': how many values and letters a reading holds, each counted each time it is reached (what is shared counts as often as it is met; a slice's spare places count too). A statement '..UptoSaid' is the law's where the arguments, and the package variables that the reading takes, are together of bulk at most 1048576: NARROWER than '..Said'. Prove '..Said' where nothing that the law and all that it calls make is longer than what came in: it says more and counts as full. Else prove '..UptoSaid'. A law counts once. -/
mutual
def uptoBulk {H : Type} : DataW H → Nat
  | .lit (.string bytes) => bytes.length + 1
  | .lit _ => 1
  | .nil => 1
  | .ptr d => uptoBulk d + 1
  | .slice elems spare => uptoBulkAll elems + uptoBulkAll spare + 1
  | .agg parts => uptoBulkAll parts + 1
  | .iface _ d => uptoBulk d + 1
  | .map entries => uptoBulkEntries entries + 1
  | .held _ => 1
def uptoBulkAll {H : Type} : List (DataW H) → Nat
  | [] => 0
  | d :: r => uptoBulk d + uptoBulkAll r
def uptoBulkEntries {H : Type} : List (Lit × DataW H) → Nat
  | [] => 0
  | x :: r => uptoBulkEntry x + uptoBulkEntries r
def uptoBulkEntry {H : Type} : Lit × DataW H → Nat
  | (.string bytes, d) => bytes.length + uptoBulk d + 1
  | (_, d) => uptoBulk d + 1
 end
def uptoSmall : (H : Type) → List (DataW H) → Bool := fun _ ds => decide (uptoBulkAll ds ≤ 1048576)
def OpenSpec.upto (s : _root_.Go.ChangeSpec) : _root_.Go.OpenSpec := { _root_.Go.OpenSpec.ofChange s with cond := some uptoSmall }

/-- 'folkmootlaw03.WireRecords', WHERE WHAT IT READS IS OF BULK AT MOST 1048576: true; the input reads as it did. -/
def wireRecordsUptoRow : OpenClaim := { program := "yteohhgkehkmgcaa", sum := "6c540d7b8ac580e75d6730b92ac4c143d939df7b91d20536e98bfb8ffef3bcaa", func := "folkmoot/folkmootlaw03.WireRecords", spec := "wireRecords", unfollowed := true, recurses := true, apart := false, narrowed := true }
def WireRecordsUptoSaid : Prop := wireRecordsUptoRow.holds Try.pinned (OpenSpec.upto wireRecordsSpec)

/-- 'folkmootlaw03.WireOps', WHERE WHAT IT READS IS OF BULK AT MOST 1048576: true; the input reads as it did. -/
def wireOpsUptoRow : OpenClaim := { program := "yteohhgkehkmgcaa", sum := "6c540d7b8ac580e75d6730b92ac4c143d939df7b91d20536e98bfb8ffef3bcaa", func := "folkmoot/folkmootlaw03.WireOps", spec := "wireOps", unfollowed := true, recurses := true, apart := false, narrowed := true }
def WireOpsUptoSaid : Prop := wireOpsUptoRow.holds Try.pinned (OpenSpec.upto wireOpsSpec)

/-- 'folkmootlaw03.WireOpBytes', WHERE WHAT IT READS IS OF BULK AT MOST 1048576: true; the input reads as it did. -/
def wireOpBytesUptoRow : OpenClaim := { program := "yteohhgkehkmgcaa", sum := "6c540d7b8ac580e75d6730b92ac4c143d939df7b91d20536e98bfb8ffef3bcaa", func := "folkmoot/folkmootlaw03.WireOpBytes", spec := "wireOpBytes", unfollowed := true, recurses := true, apart := false, narrowed := true }
def WireOpBytesUptoSaid : Prop := wireOpBytesUptoRow.holds Try.pinned (OpenSpec.upto wireOpBytesSpec)

/-- 'folkmootlaw03.WireCommands', WHERE WHAT IT READS IS OF BULK AT MOST 1048576: true; the input reads as it did. -/
def wireCommandsUptoRow : OpenClaim := { program := "yteohhgkehkmgcaa", sum := "6c540d7b8ac580e75d6730b92ac4c143d939df7b91d20536e98bfb8ffef3bcaa", func := "folkmoot/folkmootlaw03.WireCommands", spec := "wireCommands", unfollowed := true, recurses := true, apart := false, narrowed := true }
def WireCommandsUptoSaid : Prop := wireCommandsUptoRow.holds Try.pinned (OpenSpec.upto wireCommandsSpec)

/-- 'folkmootlaw03.WireCommandBytes', WHERE WHAT IT READS IS OF BULK AT MOST 1048576: true; the input reads as it did. -/
def wireCommandBytesUptoRow : OpenClaim := { program := "yteohhgkehkmgcaa", sum := "6c540d7b8ac580e75d6730b92ac4c143d939df7b91d20536e98bfb8ffef3bcaa", func := "folkmoot/folkmootlaw03.WireCommandBytes", spec := "wireCommandBytes", unfollowed := true, recurses := true, apart := false, narrowed := true }
def WireCommandBytesUptoSaid : Prop := wireCommandBytesUptoRow.holds Try.pinned (OpenSpec.upto wireCommandBytesSpec)

/-- 'folkmootlaw03.WireRecordBytes', WHERE WHAT IT READS IS OF BULK AT MOST 1048576: true; the input reads as it did. -/
def wireRecordBytesUptoRow : OpenClaim := { program := "yteohhgkehkmgcaa", sum := "6c540d7b8ac580e75d6730b92ac4c143d939df7b91d20536e98bfb8ffef3bcaa", func := "folkmoot/folkmootlaw03.WireRecordBytes", spec := "wireRecordBytes", unfollowed := true, recurses := true, apart := false, narrowed := true }
def WireRecordBytesUptoSaid : Prop := wireRecordBytesUptoRow.holds Try.pinned (OpenSpec.upto wireRecordBytesSpec)

/-- 'folkmootlaw03.WireCatalogs', WHERE WHAT IT READS IS OF BULK AT MOST 1048576: true; the input reads as it did. -/
def wireCatalogsUptoRow : OpenClaim := { program := "yteohhgkehkmgcaa", sum := "6c540d7b8ac580e75d6730b92ac4c143d939df7b91d20536e98bfb8ffef3bcaa", func := "folkmoot/folkmootlaw03.WireCatalogs", spec := "wireCatalogs", unfollowed := true, recurses := true, apart := false, narrowed := true }
def WireCatalogsUptoSaid : Prop := wireCatalogsUptoRow.holds Try.pinned (OpenSpec.upto wireCatalogsSpec)

/-- 'folkmootlaw03.WireCatalogBytes', WHERE WHAT IT READS IS OF BULK AT MOST 1048576: true; the input reads as it did. -/
def wireCatalogBytesUptoRow : OpenClaim := { program := "yteohhgkehkmgcaa", sum := "6c540d7b8ac580e75d6730b92ac4c143d939df7b91d20536e98bfb8ffef3bcaa", func := "folkmoot/folkmootlaw03.WireCatalogBytes", spec := "wireCatalogBytes", unfollowed := true, recurses := true, apart := false, narrowed := true }
def WireCatalogBytesUptoSaid : Prop := wireCatalogBytesUptoRow.holds Try.pinned (OpenSpec.upto wireCatalogBytesSpec)

/-- 'folkmootlaw03.WireMachines', WHERE WHAT IT READS IS OF BULK AT MOST 1048576: true; the input reads as it did. -/
def wireMachinesUptoRow : OpenClaim := { program := "yteohhgkehkmgcaa", sum := "6c540d7b8ac580e75d6730b92ac4c143d939df7b91d20536e98bfb8ffef3bcaa", func := "folkmoot/folkmootlaw03.WireMachines", spec := "wireMachines", unfollowed := true, recurses := true, apart := false, narrowed := true }
def WireMachinesUptoSaid : Prop := wireMachinesUptoRow.holds Try.pinned (OpenSpec.upto wireMachinesSpec)

/-- 'folkmootlaw03.WireRound', WHERE WHAT IT READS IS OF BULK AT MOST 1048576: true; the input reads as it did. -/
def wireRoundUptoRow : OpenClaim := { program := "yteohhgkehkmgcaa", sum := "6c540d7b8ac580e75d6730b92ac4c143d939df7b91d20536e98bfb8ffef3bcaa", func := "folkmoot/folkmootlaw03.WireRound", spec := "wireRound", unfollowed := true, recurses := true, apart := false, narrowed := true }
def WireRoundUptoSaid : Prop := wireRoundUptoRow.holds Try.pinned (OpenSpec.upto wireRoundSpec)

/-- 'folkmootlaw03.WireMore', WHERE WHAT IT READS IS OF BULK AT MOST 1048576: true; the input reads as it did. -/
def wireMoreUptoRow : OpenClaim := { program := "yteohhgkehkmgcaa", sum := "6c540d7b8ac580e75d6730b92ac4c143d939df7b91d20536e98bfb8ffef3bcaa", func := "folkmoot/folkmootlaw03.WireMore", spec := "wireMore", unfollowed := true, recurses := true, apart := false, narrowed := true }
def WireMoreUptoSaid : Prop := wireMoreUptoRow.holds Try.pinned (OpenSpec.upto wireMoreSpec)

end Rows
end Go.Proofs.Yteohhgkehkmgcaa
