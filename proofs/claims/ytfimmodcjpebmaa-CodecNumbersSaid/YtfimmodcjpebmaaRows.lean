/-
  No cell of these rows narrows 'for every input' (looked for: loops, veiled, ifaces, maps, wideKeys, modest, calm, conditions, laid).
  DERIVED. THE GIVEN ROWS OF THIS SEAT. 8 by the template 'for every input the law returns true; each argument reads behind the call as it read before'; 0 by the template 'total and deterministic' (their statements: YtfimmodcjpebmaaTotals.lean).
  GIVEN WITH THE SEED: the statements are not yours to turn. If you find one false, say at which input.
  Laid BY PROGRAM, IN A SANDBOX (cutbox-rows.mjs): the forced cells as the released guide's own fill.sh prints them over the translation 652e717516161558… (all of the seat's roots in one cut). By AI agents, Wed Nov 11 2026. No macro, syntax, notation, axiom, sorry.
-/
import Derived.Test.YtfimmodcjpebmaaChecked
import GoSem.Claim
import GoSem.ClaimJoined
import GoSem.ClaimMapViews
import Derived.JoinedTies
import Derived.KernelRfl
namespace Go.Proofs.Ytfimmodcjpebmaa
/- THE CELL 'sum', in the pinned program and in every row, IS THE sha256 OF THE DUMP (.gsa) THAT YtfimmodcjpebmaaProg.lean LOADS. Nothing in Lean hashes anything: it is a label: what it is worth is what the hold of that sum in a sandbox is worth. -/
noncomputable def Try.pinned : Pinned := { name := "ytfimmodcjpebmaa", sum := "652e717516161558d36936bb4fc192419808a7ef1d82ac11595f1cde3277b223", checked := Try.checked }
namespace Rows
def none {H : Type} : Left H := { results := [], args := [] }

/-- 'folkmootlaw01.CodecInts': WHATEVER THE INPUT: true; the input reads as it did. -/
def codecIntsSpec : ChangeSpec := { name := "codecInts", fn := fun _ => fun
  | [d1, d2] => { results := [.lit (.bool true)], args := [d1, d2] }
  | _ => none }
def codecIntsRow : OpenClaim := { program := "ytfimmodcjpebmaa", sum := "652e717516161558d36936bb4fc192419808a7ef1d82ac11595f1cde3277b223", func := "folkmoot/folkmootlaw01.CodecInts", spec := "codecInts", apart := false }
def CodecIntsSaid : Prop := codecIntsRow.holds Try.pinned (OpenSpec.ofChange codecIntsSpec)

/-- ITS FALSE NEIGHBOUR: 'it returns false'. Refute it at one input. -/
def codecIntsWrong : ChangeSpec := { name := "codecInts", fn := fun _ => fun
  | [d1, d2] => { results := [.lit (.bool false)], args := [d1, d2] }
  | _ => none }
def CodecIntsWrongFalsely : Prop := codecIntsRow.holds Try.pinned (OpenSpec.ofChange codecIntsWrong)

/-- 'folkmootlaw01.CodecNumbers': WHATEVER THE INPUT: true; the input reads as it did. -/
def codecNumbersSpec : ChangeSpec := { name := "codecNumbers", fn := fun _ => fun
  | [d1, d2] => { results := [.lit (.bool true)], args := [d1, d2] }
  | _ => none }
def codecNumbersRow : OpenClaim := { program := "ytfimmodcjpebmaa", sum := "652e717516161558d36936bb4fc192419808a7ef1d82ac11595f1cde3277b223", func := "folkmoot/folkmootlaw01.CodecNumbers", spec := "codecNumbers", apart := false }
def CodecNumbersSaid : Prop := codecNumbersRow.holds Try.pinned (OpenSpec.ofChange codecNumbersSpec)

/-- ITS FALSE NEIGHBOUR: 'it returns false'. Refute it at one input. -/
def codecNumbersWrong : ChangeSpec := { name := "codecNumbers", fn := fun _ => fun
  | [d1, d2] => { results := [.lit (.bool false)], args := [d1, d2] }
  | _ => none }
def CodecNumbersWrongFalsely : Prop := codecNumbersRow.holds Try.pinned (OpenSpec.ofChange codecNumbersWrong)

/-- 'folkmootlaw01.CodecTexts': WHATEVER THE INPUT: true; the input reads as it did. -/
def codecTextsSpec : ChangeSpec := { name := "codecTexts", fn := fun _ => fun
  | [d1, d2] => { results := [.lit (.bool true)], args := [d1, d2] }
  | _ => none }
def codecTextsRow : OpenClaim := { program := "ytfimmodcjpebmaa", sum := "652e717516161558d36936bb4fc192419808a7ef1d82ac11595f1cde3277b223", func := "folkmoot/folkmootlaw01.CodecTexts", spec := "codecTexts", apart := false }
def CodecTextsSaid : Prop := codecTextsRow.holds Try.pinned (OpenSpec.ofChange codecTextsSpec)

/-- ITS FALSE NEIGHBOUR: 'it returns false'. Refute it at one input. -/
def codecTextsWrong : ChangeSpec := { name := "codecTexts", fn := fun _ => fun
  | [d1, d2] => { results := [.lit (.bool false)], args := [d1, d2] }
  | _ => none }
def CodecTextsWrongFalsely : Prop := codecTextsRow.holds Try.pinned (OpenSpec.ofChange codecTextsWrong)

/-- 'folkmootlaw01.CodecIntBack': WHATEVER THE INPUT: true; the input reads as it did. -/
def codecIntBackSpec : ChangeSpec := { name := "codecIntBack", fn := fun _ => fun
  | [d1, d2] => { results := [.lit (.bool true)], args := [d1, d2] }
  | _ => none }
def codecIntBackRow : OpenClaim := { program := "ytfimmodcjpebmaa", sum := "652e717516161558d36936bb4fc192419808a7ef1d82ac11595f1cde3277b223", func := "folkmoot/folkmootlaw01.CodecIntBack", spec := "codecIntBack", apart := false }
def CodecIntBackSaid : Prop := codecIntBackRow.holds Try.pinned (OpenSpec.ofChange codecIntBackSpec)

/-- ITS FALSE NEIGHBOUR: 'it returns false'. Refute it at one input. -/
def codecIntBackWrong : ChangeSpec := { name := "codecIntBack", fn := fun _ => fun
  | [d1, d2] => { results := [.lit (.bool false)], args := [d1, d2] }
  | _ => none }
def CodecIntBackWrongFalsely : Prop := codecIntBackRow.holds Try.pinned (OpenSpec.ofChange codecIntBackWrong)

/-- 'folkmootlaw01.CodecReads': WHATEVER THE INPUT: true; the input reads as it did. -/
def codecReadsSpec : ChangeSpec := { name := "codecReads", fn := fun _ => fun
  | [d1, d2] => { results := [.lit (.bool true)], args := [d1, d2] }
  | _ => none }
def codecReadsRow : OpenClaim := { program := "ytfimmodcjpebmaa", sum := "652e717516161558d36936bb4fc192419808a7ef1d82ac11595f1cde3277b223", func := "folkmoot/folkmootlaw01.CodecReads", spec := "codecReads", apart := false }
def CodecReadsSaid : Prop := codecReadsRow.holds Try.pinned (OpenSpec.ofChange codecReadsSpec)

/-- ITS FALSE NEIGHBOUR: 'it returns false'. Refute it at one input. -/
def codecReadsWrong : ChangeSpec := { name := "codecReads", fn := fun _ => fun
  | [d1, d2] => { results := [.lit (.bool false)], args := [d1, d2] }
  | _ => none }
def CodecReadsWrongFalsely : Prop := codecReadsRow.holds Try.pinned (OpenSpec.ofChange codecReadsWrong)

/-- 'folkmootlaw01.CodecNil': WHATEVER THE INPUT: true; the input reads as it did. -/
def codecNilSpec : ChangeSpec := { name := "codecNil", fn := fun _ => fun
  | [] => { results := [.lit (.bool true)], args := [] }
  | _ => none }
def codecNilRow : OpenClaim := { program := "ytfimmodcjpebmaa", sum := "652e717516161558d36936bb4fc192419808a7ef1d82ac11595f1cde3277b223", func := "folkmoot/folkmootlaw01.CodecNil", spec := "codecNil", apart := false }
def CodecNilSaid : Prop := codecNilRow.holds Try.pinned (OpenSpec.ofChange codecNilSpec)

/-- ITS FALSE NEIGHBOUR: 'it returns false'. Refute it at one input. -/
def codecNilWrong : ChangeSpec := { name := "codecNil", fn := fun _ => fun
  | [] => { results := [.lit (.bool false)], args := [] }
  | _ => none }
def CodecNilWrongFalsely : Prop := codecNilRow.holds Try.pinned (OpenSpec.ofChange codecNilWrong)

/-- 'folkmootlaw01.CodecNumberBack': WHATEVER THE INPUT: true; the input reads as it did. -/
def codecNumberBackSpec : ChangeSpec := { name := "codecNumberBack", fn := fun _ => fun
  | [d1, d2] => { results := [.lit (.bool true)], args := [d1, d2] }
  | _ => none }
def codecNumberBackRow : OpenClaim := { program := "ytfimmodcjpebmaa", sum := "652e717516161558d36936bb4fc192419808a7ef1d82ac11595f1cde3277b223", func := "folkmoot/folkmootlaw01.CodecNumberBack", spec := "codecNumberBack", apart := false }
def CodecNumberBackSaid : Prop := codecNumberBackRow.holds Try.pinned (OpenSpec.ofChange codecNumberBackSpec)

/-- ITS FALSE NEIGHBOUR: 'it returns false'. Refute it at one input. -/
def codecNumberBackWrong : ChangeSpec := { name := "codecNumberBack", fn := fun _ => fun
  | [d1, d2] => { results := [.lit (.bool false)], args := [d1, d2] }
  | _ => none }
def CodecNumberBackWrongFalsely : Prop := codecNumberBackRow.holds Try.pinned (OpenSpec.ofChange codecNumberBackWrong)

/-- 'folkmootlaw01.CodecTextBack': WHATEVER THE INPUT: true; the input reads as it did. -/
def codecTextBackSpec : ChangeSpec := { name := "codecTextBack", fn := fun _ => fun
  | [d1, d2] => { results := [.lit (.bool true)], args := [d1, d2] }
  | _ => none }
def codecTextBackRow : OpenClaim := { program := "ytfimmodcjpebmaa", sum := "652e717516161558d36936bb4fc192419808a7ef1d82ac11595f1cde3277b223", func := "folkmoot/folkmootlaw01.CodecTextBack", spec := "codecTextBack", apart := false }
def CodecTextBackSaid : Prop := codecTextBackRow.holds Try.pinned (OpenSpec.ofChange codecTextBackSpec)

/-- ITS FALSE NEIGHBOUR: 'it returns false'. Refute it at one input. -/
def codecTextBackWrong : ChangeSpec := { name := "codecTextBack", fn := fun _ => fun
  | [d1, d2] => { results := [.lit (.bool false)], args := [d1, d2] }
  | _ => none }
def CodecTextBackWrongFalsely : Prop := codecTextBackRow.holds Try.pinned (OpenSpec.ofChange codecTextBackWrong)

/- THE SECOND FORM. 'bulk': how many values and letters a reading holds, each counted each time it is reached (what is shared counts as often as it is met; a slice's spare places count too). A statement '..UptoSaid' is the law's where the arguments, and the package variables that the reading takes, are together of bulk at most 1048576: NARROWER than '..Said'. Prove '..Said' where nothing that the law and all that it calls make is longer than what came in: it says more and counts as full. Else prove '..UptoSaid'. A law counts once. -/
mutual
def uptoBulk {H : Type} : DataW H → Nat
  | .lit (.string bytes) => bytes.length + 1
  | .lit _ => 1
  | .nil => 1
  | .ptr d => uptoBulk d + 1
  | .slice elems spare => uptoBulkAll elems + uptoBulkAll spare + 1
  | .agg parts => uptoBulkAll parts + 1
  | .iface _ d => uptoBulk d + 1
  | .map entries => uptoBulkEntries entries + 1
  | .held _ => 1
def uptoBulkAll {H : Type} : List (DataW H) → Nat
  | [] => 0
  | d :: r => uptoBulk d + uptoBulkAll r
def uptoBulkEntries {H : Type} : List (Lit × DataW H) → Nat
  | [] => 0
  | x :: r => uptoBulkEntry x + uptoBulkEntries r
def uptoBulkEntry {H : Type} : Lit × DataW H → Nat
  | (.string bytes, d) => bytes.length + uptoBulk d + 1
  | (_, d) => uptoBulk d + 1
 end
def uptoSmall : (H : Type) → List (DataW H) → Bool := fun _ ds => decide (uptoBulkAll ds ≤ 1048576)
def OpenSpec.upto (s : _root_.Go.ChangeSpec) : _root_.Go.OpenSpec := { _root_.Go.OpenSpec.ofChange s with cond := some uptoSmall }

/-- 'folkmootlaw01.CodecInts', WHERE WHAT IT READS IS OF BULK AT MOST 1048576: true; the input reads as it did. -/
def codecIntsUptoRow : OpenClaim := { program := "ytfimmodcjpebmaa", sum := "652e717516161558d36936bb4fc192419808a7ef1d82ac11595f1cde3277b223", func := "folkmoot/folkmootlaw01.CodecInts", spec := "codecInts", apart := false, narrowed := true }
def CodecIntsUptoSaid : Prop := codecIntsUptoRow.holds Try.pinned (OpenSpec.upto codecIntsSpec)

/-- 'folkmootlaw01.CodecNumbers', WHERE WHAT IT READS IS OF BULK AT MOST 1048576: true; the input reads as it did. -/
def codecNumbersUptoRow : OpenClaim := { program := "ytfimmodcjpebmaa", sum := "652e717516161558d36936bb4fc192419808a7ef1d82ac11595f1cde3277b223", func := "folkmoot/folkmootlaw01.CodecNumbers", spec := "codecNumbers", apart := false, narrowed := true }
def CodecNumbersUptoSaid : Prop := codecNumbersUptoRow.holds Try.pinned (OpenSpec.upto codecNumbersSpec)

/-- 'folkmootlaw01.CodecTexts', WHERE WHAT IT READS IS OF BULK AT MOST 1048576: true; the input reads as it did. -/
def codecTextsUptoRow : OpenClaim := { program := "ytfimmodcjpebmaa", sum := "652e717516161558d36936bb4fc192419808a7ef1d82ac11595f1cde3277b223", func := "folkmoot/folkmootlaw01.CodecTexts", spec := "codecTexts", apart := false, narrowed := true }
def CodecTextsUptoSaid : Prop := codecTextsUptoRow.holds Try.pinned (OpenSpec.upto codecTextsSpec)

/-- 'folkmootlaw01.CodecIntBack', WHERE WHAT IT READS IS OF BULK AT MOST 1048576: true; the input reads as it did. -/
def codecIntBackUptoRow : OpenClaim := { program := "ytfimmodcjpebmaa", sum := "652e717516161558d36936bb4fc192419808a7ef1d82ac11595f1cde3277b223", func := "folkmoot/folkmootlaw01.CodecIntBack", spec := "codecIntBack", apart := false, narrowed := true }
def CodecIntBackUptoSaid : Prop := codecIntBackUptoRow.holds Try.pinned (OpenSpec.upto codecIntBackSpec)

/-- 'folkmootlaw01.CodecReads', WHERE WHAT IT READS IS OF BULK AT MOST 1048576: true; the input reads as it did. -/
def codecReadsUptoRow : OpenClaim := { program := "ytfimmodcjpebmaa", sum := "652e717516161558d36936bb4fc192419808a7ef1d82ac11595f1cde3277b223", func := "folkmoot/folkmootlaw01.CodecReads", spec := "codecReads", apart := false, narrowed := true }
def CodecReadsUptoSaid : Prop := codecReadsUptoRow.holds Try.pinned (OpenSpec.upto codecReadsSpec)

/-- 'folkmootlaw01.CodecNil', WHERE WHAT IT READS IS OF BULK AT MOST 1048576: true; the input reads as it did. -/
def codecNilUptoRow : OpenClaim := { program := "ytfimmodcjpebmaa", sum := "652e717516161558d36936bb4fc192419808a7ef1d82ac11595f1cde3277b223", func := "folkmoot/folkmootlaw01.CodecNil", spec := "codecNil", apart := false, narrowed := true }
def CodecNilUptoSaid : Prop := codecNilUptoRow.holds Try.pinned (OpenSpec.upto codecNilSpec)

/-- 'folkmootlaw01.CodecNumberBack', WHERE WHAT IT READS IS OF BULK AT MOST 1048576: true; the input reads as it did. -/
def codecNumberBackUptoRow : OpenClaim := { program := "ytfimmodcjpebmaa", sum := "652e717516161558d36936bb4fc192419808a7ef1d82ac11595f1cde3277b223", func := "folkmoot/folkmootlaw01.CodecNumberBack", spec := "codecNumberBack", apart := false, narrowed := true }
def CodecNumberBackUptoSaid : Prop := codecNumberBackUptoRow.holds Try.pinned (OpenSpec.upto codecNumberBackSpec)

/-- 'folkmootlaw01.CodecTextBack', WHERE WHAT IT READS IS OF BULK AT MOST 1048576: true; the input reads as it did. -/
def codecTextBackUptoRow : OpenClaim := { program := "ytfimmodcjpebmaa", sum := "652e717516161558d36936bb4fc192419808a7ef1d82ac11595f1cde3277b223", func := "folkmoot/folkmootlaw01.CodecTextBack", spec := "codecTextBack", apart := false, narrowed := true }
def CodecTextBackUptoSaid : Prop := codecTextBackUptoRow.holds Try.pinned (OpenSpec.upto codecTextBackSpec)

end Rows
end Go.Proofs.Ytfimmodcjpebmaa
