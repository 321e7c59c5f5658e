/-
  DERIVED. GIVEN WITH THE SEED: THE CARDS: each row of YtkdmfjpfanmgmaaGreatDoorRows.lean that lists a variable, with what it lists TIED to the program's text (the seventh form; the later family's looks); each row that meets fmt, with fmt's text TOLD by the authors' own Lean function (tested against real Go, not proved from fmt's source: count such statements apart). THE CARD IS WHAT COUNTS. Prove the row's statement (the work); the ties are given (YtkdmfjpfanmgmaaGreatDoorTie.lean); close each card by the builder's one call (the guide's Derived/Test/ToyasCard.lean, 'card_holds'). Laid BY PROGRAM, IN A SANDBOX (cutbox-door.mjs). By AI agents, Wed Nov 11 2026. No macro, syntax, notation, axiom, sorry.
-/
import Derived.Test.YtkdmfjpfanmgmaaGreatDoorRows
import GoSem.ClaimSeven
namespace Go.Proofs.YtkdmfjpfanmgmaaGreatDoor
namespace Rows

/-- THE TIED CARD OF 'folkmootlaw15.StableNil'. -/
def stableNilCard : Claim7 := { stood := { row := stableNilRow, standIns := [], harness := (true, "5a5e8a58fb8437155d44f4439f7df1369c26cc2bf7d92a68758fe75e72a0e921"), looks := true }, kinds := [], alts := [], laidByText := true, laidKinds := [.data, .data, .data, .sentinel, .sentinel, .data, .data], laidTests := true, laidLooks := .later }
def StableNilCardSaid : Prop := Claim7.holds Tryz.pinned (.plain (OpenSpec.ofChange stableNilSpec)) stableNilCard

/-- THE SECOND FORM's CARD OF 'folkmootlaw15.StableNil'. -/
def stableNilUptoCard : Claim7 := { stood := { row := stableNilUptoRow, standIns := [], harness := (true, "5a5e8a58fb8437155d44f4439f7df1369c26cc2bf7d92a68758fe75e72a0e921"), looks := true }, kinds := [], alts := [], laidByText := true, laidKinds := [.data, .data, .data, .sentinel, .sentinel, .data, .data], laidTests := true, laidLooks := .later }
def StableNilUptoCardSaid : Prop := Claim7.holds Tryz.pinned (.plain (OpenSpec.upto stableNilSpec)) stableNilUptoCard
end Rows
end Go.Proofs.YtkdmfjpfanmgmaaGreatDoor
