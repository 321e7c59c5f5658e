/-
  NARROWER THAN 'FOR EVERY INPUT', by the rows' own cells (each row's printed sentence says how): SealSums: laid · SealFrames: laid · SealFirst: laid · SealBack: laid · SealByte: laid · SealAll: laid · SealRow: laid.
  DERIVED. THE GIVEN ROWS OF THIS SEAT. 7 by the template 'for every input the law returns true; each argument reads behind the call as it read before'; 0 by the template 'total and deterministic' (their statements: YtgfnbfebcejocaaDoorTotals.lean).
  GIVEN WITH THE SEED: the statements are not yours to turn. If you find one false, say at which input.
  Laid BY PROGRAM, IN A SANDBOX (cutbox-rows.mjs): the forced cells as the released guide's own fill.sh prints them over the translation b282e4070bad44ac… (all of the seat's roots in one cut). By AI agents, Wed Nov 11 2026. No macro, syntax, notation, axiom, sorry.
-/
import Derived.Test.YtgfnbfebcejocaaDoorChecked
import GoSem.Claim
import GoSem.ClaimJoined
import GoSem.ClaimMapViews
import Derived.JoinedTies
import Derived.KernelRfl
namespace Go.Proofs.YtgfnbfebcejocaaDoor
/- THE CELL 'sum', in the pinned program and in every row, IS THE sha256 OF THE DUMP (.gsa) THAT YtgfnbfebcejocaaDoorProg.lean LOADS. Nothing in Lean hashes anything: it is a label: what it is worth is what the hold of that sum in a sandbox is worth. -/
noncomputable def Tryd.pinned : Pinned := { name := "ytgfnbfebcejocaadoor", sum := "b282e4070bad44ac3b85f7bd183c7e347d61c20eec9b82d5aaca29c86d81e0ce", checked := Tryd.checked }
namespace Rows
def none {H : Type} : Left H := { results := [], args := [] }

/- WHAT THE LISTED PACKAGE-LEVEL VARIABLES READ AS WHEN THE CALL BEGINS. Each datum BY PROGRAM (the guide's laid-datum.mjs) off the statement by which the dump's own 'gosem.cut.vars' lays the variable. In a bare row this is a premise. The card (YtgfnbfebcejocaaDoorCards.lean) ties it to the program's text. -/
def laid_folkmoot_seal_steps {H : Type} : DataW H := .agg [.lit (.int .u32 0), .lit (.int .u32 498536548), .lit (.int .u32 997073096), .lit (.int .u32 651767980), .lit (.int .u32 1994146192), .lit (.int .u32 1802195444), .lit (.int .u32 1303535960), .lit (.int .u32 1342533948), .lit (.int .u32 3988292384), .lit (.int .u32 4027552580), .lit (.int .u32 3604390888), .lit (.int .u32 3412177804), .lit (.int .u32 2607071920), .lit (.int .u32 2262029012), .lit (.int .u32 2685067896), .lit (.int .u32 3183342108)]

/-- 'folkmootlaw02.SealSums': WHATEVER THE INPUT: true; the input reads as it did. -/
def sealSumsSpec : ChangeSpec := { name := "sealSums", fn := fun _ => fun
  | [d] => { results := [.lit (.bool true)], args := [d] }
  | _ => none }
def sealSumsRow : OpenClaim := { program := "ytgfnbfebcejocaadoor", sum := "b282e4070bad44ac3b85f7bd183c7e347d61c20eec9b82d5aaca29c86d81e0ce", func := "folkmoot/folkmootlaw02.SealSums", spec := "sealSums", named := ["folkmoot/seal.steps"], apart := false, laid := [("folkmoot/seal.steps", laid_folkmoot_seal_steps)] }
def SealSumsSaid : Prop := sealSumsRow.holds Tryd.pinned (OpenSpec.ofChange sealSumsSpec)

/-- ITS FALSE NEIGHBOUR: 'it returns false'. Refute it at one input. -/
def sealSumsWrong : ChangeSpec := { name := "sealSums", fn := fun _ => fun
  | [d] => { results := [.lit (.bool false)], args := [d] }
  | _ => none }
def SealSumsWrongFalsely : Prop := sealSumsRow.holds Tryd.pinned (OpenSpec.ofChange sealSumsWrong)

/-- 'folkmootlaw02.SealFrames': WHATEVER THE INPUT: true; the input reads as it did. -/
def sealFramesSpec : ChangeSpec := { name := "sealFrames", fn := fun _ => fun
  | [d] => { results := [.lit (.bool true)], args := [d] }
  | _ => none }
def sealFramesRow : OpenClaim := { program := "ytgfnbfebcejocaadoor", sum := "b282e4070bad44ac3b85f7bd183c7e347d61c20eec9b82d5aaca29c86d81e0ce", func := "folkmoot/folkmootlaw02.SealFrames", spec := "sealFrames", named := ["folkmoot/seal.steps"], apart := false, laid := [("folkmoot/seal.steps", laid_folkmoot_seal_steps)] }
def SealFramesSaid : Prop := sealFramesRow.holds Tryd.pinned (OpenSpec.ofChange sealFramesSpec)

/-- ITS FALSE NEIGHBOUR: 'it returns false'. Refute it at one input. -/
def sealFramesWrong : ChangeSpec := { name := "sealFrames", fn := fun _ => fun
  | [d] => { results := [.lit (.bool false)], args := [d] }
  | _ => none }
def SealFramesWrongFalsely : Prop := sealFramesRow.holds Tryd.pinned (OpenSpec.ofChange sealFramesWrong)

/-- 'folkmootlaw02.SealFirst': WHATEVER THE INPUT: true; the input reads as it did. -/
def sealFirstSpec : ChangeSpec := { name := "sealFirst", fn := fun _ => fun
  | [d] => { results := [.lit (.bool true)], args := [d] }
  | _ => none }
def sealFirstRow : OpenClaim := { program := "ytgfnbfebcejocaadoor", sum := "b282e4070bad44ac3b85f7bd183c7e347d61c20eec9b82d5aaca29c86d81e0ce", func := "folkmoot/folkmootlaw02.SealFirst", spec := "sealFirst", named := ["folkmoot/seal.steps"], apart := false, laid := [("folkmoot/seal.steps", laid_folkmoot_seal_steps)] }
def SealFirstSaid : Prop := sealFirstRow.holds Tryd.pinned (OpenSpec.ofChange sealFirstSpec)

/-- ITS FALSE NEIGHBOUR: 'it returns false'. Refute it at one input. -/
def sealFirstWrong : ChangeSpec := { name := "sealFirst", fn := fun _ => fun
  | [d] => { results := [.lit (.bool false)], args := [d] }
  | _ => none }
def SealFirstWrongFalsely : Prop := sealFirstRow.holds Tryd.pinned (OpenSpec.ofChange sealFirstWrong)

/-- 'folkmootlaw02.SealBack': WHATEVER THE INPUT: true; the input reads as it did. -/
def sealBackSpec : ChangeSpec := { name := "sealBack", fn := fun _ => fun
  | [d1, d2] => { results := [.lit (.bool true)], args := [d1, d2] }
  | _ => none }
def sealBackRow : OpenClaim := { program := "ytgfnbfebcejocaadoor", sum := "b282e4070bad44ac3b85f7bd183c7e347d61c20eec9b82d5aaca29c86d81e0ce", func := "folkmoot/folkmootlaw02.SealBack", spec := "sealBack", named := ["folkmoot/seal.steps"], apart := false, laid := [("folkmoot/seal.steps", laid_folkmoot_seal_steps)] }
def SealBackSaid : Prop := sealBackRow.holds Tryd.pinned (OpenSpec.ofChange sealBackSpec)

/-- ITS FALSE NEIGHBOUR: 'it returns false'. Refute it at one input. -/
def sealBackWrong : ChangeSpec := { name := "sealBack", fn := fun _ => fun
  | [d1, d2] => { results := [.lit (.bool false)], args := [d1, d2] }
  | _ => none }
def SealBackWrongFalsely : Prop := sealBackRow.holds Tryd.pinned (OpenSpec.ofChange sealBackWrong)

/-- 'folkmootlaw02.SealByte': WHATEVER THE INPUT: true; the input reads as it did. -/
def sealByteSpec : ChangeSpec := { name := "sealByte", fn := fun _ => fun
  | [d1, d2, d3] => { results := [.lit (.bool true)], args := [d1, d2, d3] }
  | _ => none }
def sealByteRow : OpenClaim := { program := "ytgfnbfebcejocaadoor", sum := "b282e4070bad44ac3b85f7bd183c7e347d61c20eec9b82d5aaca29c86d81e0ce", func := "folkmoot/folkmootlaw02.SealByte", spec := "sealByte", named := ["folkmoot/seal.steps"], apart := false, laid := [("folkmoot/seal.steps", laid_folkmoot_seal_steps)] }
def SealByteSaid : Prop := sealByteRow.holds Tryd.pinned (OpenSpec.ofChange sealByteSpec)

/-- ITS FALSE NEIGHBOUR: 'it returns false'. Refute it at one input. -/
def sealByteWrong : ChangeSpec := { name := "sealByte", fn := fun _ => fun
  | [d1, d2, d3] => { results := [.lit (.bool false)], args := [d1, d2, d3] }
  | _ => none }
def SealByteWrongFalsely : Prop := sealByteRow.holds Tryd.pinned (OpenSpec.ofChange sealByteWrong)

/-- 'folkmootlaw02.SealAll': WHATEVER THE INPUT: true; the input reads as it did. -/
def sealAllSpec : ChangeSpec := { name := "sealAll", fn := fun _ => fun
  | [d] => { results := [.lit (.bool true)], args := [d] }
  | _ => none }
def sealAllRow : OpenClaim := { program := "ytgfnbfebcejocaadoor", sum := "b282e4070bad44ac3b85f7bd183c7e347d61c20eec9b82d5aaca29c86d81e0ce", func := "folkmoot/folkmootlaw02.SealAll", spec := "sealAll", named := ["folkmoot/seal.steps"], apart := false, laid := [("folkmoot/seal.steps", laid_folkmoot_seal_steps)] }
def SealAllSaid : Prop := sealAllRow.holds Tryd.pinned (OpenSpec.ofChange sealAllSpec)

/-- ITS FALSE NEIGHBOUR: 'it returns false'. Refute it at one input. -/
def sealAllWrong : ChangeSpec := { name := "sealAll", fn := fun _ => fun
  | [d] => { results := [.lit (.bool false)], args := [d] }
  | _ => none }
def SealAllWrongFalsely : Prop := sealAllRow.holds Tryd.pinned (OpenSpec.ofChange sealAllWrong)

/-- 'folkmootlaw02.SealRow': WHATEVER THE INPUT: true; the input reads as it did. -/
def sealRowSpec : ChangeSpec := { name := "sealRow", fn := fun _ => fun
  | [d1, d2] => { results := [.lit (.bool true)], args := [d1, d2] }
  | _ => none }
def sealRowRow : OpenClaim := { program := "ytgfnbfebcejocaadoor", sum := "b282e4070bad44ac3b85f7bd183c7e347d61c20eec9b82d5aaca29c86d81e0ce", func := "folkmoot/folkmootlaw02.SealRow", spec := "sealRow", named := ["folkmoot/seal.steps"], apart := false, laid := [("folkmoot/seal.steps", laid_folkmoot_seal_steps)] }
def SealRowSaid : Prop := sealRowRow.holds Tryd.pinned (OpenSpec.ofChange sealRowSpec)

/-- ITS FALSE NEIGHBOUR: 'it returns false'. Refute it at one input. -/
def sealRowWrong : ChangeSpec := { name := "sealRow", fn := fun _ => fun
  | [d1, d2] => { results := [.lit (.bool false)], args := [d1, d2] }
  | _ => none }
def SealRowWrongFalsely : Prop := sealRowRow.holds Tryd.pinned (OpenSpec.ofChange sealRowWrong)

/- THE SECOND FORM. 'bulk': how many values and letters a reading holds, each counted each time it is reached (what is shared counts as often as it is met; a slice's spare places count too). A statement '..UptoSaid' is the law's where the arguments, and the package variables that the reading takes, are together of bulk at most 1048576: NARROWER than '..Said'. Prove '..Said' where nothing that the law and all that it calls make is longer than what came in: it says more and counts as full. Else prove '..UptoSaid'. A law counts once. -/
mutual
def uptoBulk {H : Type} : DataW H → Nat
  | .lit (.string bytes) => bytes.length + 1
  | .lit _ => 1
  | .nil => 1
  | .ptr d => uptoBulk d + 1
  | .slice elems spare => uptoBulkAll elems + uptoBulkAll spare + 1
  | .agg parts => uptoBulkAll parts + 1
  | .iface _ d => uptoBulk d + 1
  | .map entries => uptoBulkEntries entries + 1
  | .held _ => 1
def uptoBulkAll {H : Type} : List (DataW H) → Nat
  | [] => 0
  | d :: r => uptoBulk d + uptoBulkAll r
def uptoBulkEntries {H : Type} : List (Lit × DataW H) → Nat
  | [] => 0
  | x :: r => uptoBulkEntry x + uptoBulkEntries r
def uptoBulkEntry {H : Type} : Lit × DataW H → Nat
  | (.string bytes, d) => bytes.length + uptoBulk d + 1
  | (_, d) => uptoBulk d + 1
 end
def uptoSmall : (H : Type) → List (DataW H) → Bool := fun _ ds => decide (uptoBulkAll ds ≤ 1048576)
def OpenSpec.upto (s : _root_.Go.ChangeSpec) : _root_.Go.OpenSpec := { _root_.Go.OpenSpec.ofChange s with cond := some uptoSmall }

/-- 'folkmootlaw02.SealSums', WHERE WHAT IT READS IS OF BULK AT MOST 1048576: true; the input reads as it did. -/
def sealSumsUptoRow : OpenClaim := { program := "ytgfnbfebcejocaadoor", sum := "b282e4070bad44ac3b85f7bd183c7e347d61c20eec9b82d5aaca29c86d81e0ce", func := "folkmoot/folkmootlaw02.SealSums", spec := "sealSums", named := ["folkmoot/seal.steps"], apart := false, laid := [("folkmoot/seal.steps", laid_folkmoot_seal_steps)], narrowed := true }
def SealSumsUptoSaid : Prop := sealSumsUptoRow.holds Tryd.pinned (OpenSpec.upto sealSumsSpec)

/-- 'folkmootlaw02.SealFrames', WHERE WHAT IT READS IS OF BULK AT MOST 1048576: true; the input reads as it did. -/
def sealFramesUptoRow : OpenClaim := { program := "ytgfnbfebcejocaadoor", sum := "b282e4070bad44ac3b85f7bd183c7e347d61c20eec9b82d5aaca29c86d81e0ce", func := "folkmoot/folkmootlaw02.SealFrames", spec := "sealFrames", named := ["folkmoot/seal.steps"], apart := false, laid := [("folkmoot/seal.steps", laid_folkmoot_seal_steps)], narrowed := true }
def SealFramesUptoSaid : Prop := sealFramesUptoRow.holds Tryd.pinned (OpenSpec.upto sealFramesSpec)

/-- 'folkmootlaw02.SealFirst', WHERE WHAT IT READS IS OF BULK AT MOST 1048576: true; the input reads as it did. -/
def sealFirstUptoRow : OpenClaim := { program := "ytgfnbfebcejocaadoor", sum := "b282e4070bad44ac3b85f7bd183c7e347d61c20eec9b82d5aaca29c86d81e0ce", func := "folkmoot/folkmootlaw02.SealFirst", spec := "sealFirst", named := ["folkmoot/seal.steps"], apart := false, laid := [("folkmoot/seal.steps", laid_folkmoot_seal_steps)], narrowed := true }
def SealFirstUptoSaid : Prop := sealFirstUptoRow.holds Tryd.pinned (OpenSpec.upto sealFirstSpec)

/-- 'folkmootlaw02.SealBack', WHERE WHAT IT READS IS OF BULK AT MOST 1048576: true; the input reads as it did. -/
def sealBackUptoRow : OpenClaim := { program := "ytgfnbfebcejocaadoor", sum := "b282e4070bad44ac3b85f7bd183c7e347d61c20eec9b82d5aaca29c86d81e0ce", func := "folkmoot/folkmootlaw02.SealBack", spec := "sealBack", named := ["folkmoot/seal.steps"], apart := false, laid := [("folkmoot/seal.steps", laid_folkmoot_seal_steps)], narrowed := true }
def SealBackUptoSaid : Prop := sealBackUptoRow.holds Tryd.pinned (OpenSpec.upto sealBackSpec)

/-- 'folkmootlaw02.SealByte', WHERE WHAT IT READS IS OF BULK AT MOST 1048576: true; the input reads as it did. -/
def sealByteUptoRow : OpenClaim := { program := "ytgfnbfebcejocaadoor", sum := "b282e4070bad44ac3b85f7bd183c7e347d61c20eec9b82d5aaca29c86d81e0ce", func := "folkmoot/folkmootlaw02.SealByte", spec := "sealByte", named := ["folkmoot/seal.steps"], apart := false, laid := [("folkmoot/seal.steps", laid_folkmoot_seal_steps)], narrowed := true }
def SealByteUptoSaid : Prop := sealByteUptoRow.holds Tryd.pinned (OpenSpec.upto sealByteSpec)

/-- 'folkmootlaw02.SealAll', WHERE WHAT IT READS IS OF BULK AT MOST 1048576: true; the input reads as it did. -/
def sealAllUptoRow : OpenClaim := { program := "ytgfnbfebcejocaadoor", sum := "b282e4070bad44ac3b85f7bd183c7e347d61c20eec9b82d5aaca29c86d81e0ce", func := "folkmoot/folkmootlaw02.SealAll", spec := "sealAll", named := ["folkmoot/seal.steps"], apart := false, laid := [("folkmoot/seal.steps", laid_folkmoot_seal_steps)], narrowed := true }
def SealAllUptoSaid : Prop := sealAllUptoRow.holds Tryd.pinned (OpenSpec.upto sealAllSpec)

/-- 'folkmootlaw02.SealRow', WHERE WHAT IT READS IS OF BULK AT MOST 1048576: true; the input reads as it did. -/
def sealRowUptoRow : OpenClaim := { program := "ytgfnbfebcejocaadoor", sum := "b282e4070bad44ac3b85f7bd183c7e347d61c20eec9b82d5aaca29c86d81e0ce", func := "folkmoot/folkmootlaw02.SealRow", spec := "sealRow", named := ["folkmoot/seal.steps"], apart := false, laid := [("folkmoot/seal.steps", laid_folkmoot_seal_steps)], narrowed := true }
def SealRowUptoSaid : Prop := sealRowUptoRow.holds Tryd.pinned (OpenSpec.upto sealRowSpec)

end Rows
end Go.Proofs.YtgfnbfebcejocaaDoor
