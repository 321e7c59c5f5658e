/-
  DERIVED. GIVEN WITH THE SEED: THE CARDS: each row of YtgfnbfebcejocaaDoorRows.lean that lists a variable, with what it lists TIED to the program's text (the seventh form; the later family's looks); each row that meets fmt, with fmt's text TOLD by the authors' own Lean function (tested against real Go, not proved from fmt's source: count such statements apart). THE CARD IS WHAT COUNTS. Prove the row's statement (the work); the ties are given (YtgfnbfebcejocaaDoorTie.lean); close each card by the builder's one call (the guide's Derived/Test/ToyasCard.lean, 'card_holds'). Laid BY PROGRAM, IN A SANDBOX (cutbox-door.mjs). By AI agents, Wed Nov 11 2026. No macro, syntax, notation, axiom, sorry.
-/
import Derived.Test.YtgfnbfebcejocaaDoorRows
import GoSem.ClaimSeven
namespace Go.Proofs.YtgfnbfebcejocaaDoor
namespace Rows

/-- THE TIED CARD OF 'folkmootlaw02.SealSums'. -/
def sealSumsCard : Claim7 := { stood := { row := sealSumsRow, standIns := [], harness := (true, "f54a9f2cce1a68aa1d99d56b1df019b9ac76c0b425fd77492920b3fb031b09bd"), looks := false }, kinds := [], alts := [], laidByText := true, laidKinds := [.data], laidTests := true, laidLooks := .later }
def SealSumsCardSaid : Prop := Claim7.holds Tryd.pinned (.plain (OpenSpec.ofChange sealSumsSpec)) sealSumsCard

/-- THE TIED CARD OF 'folkmootlaw02.SealFrames'. -/
def sealFramesCard : Claim7 := { stood := { row := sealFramesRow, standIns := [], harness := (true, "f54a9f2cce1a68aa1d99d56b1df019b9ac76c0b425fd77492920b3fb031b09bd"), looks := false }, kinds := [], alts := [], laidByText := true, laidKinds := [.data], laidTests := true, laidLooks := .later }
def SealFramesCardSaid : Prop := Claim7.holds Tryd.pinned (.plain (OpenSpec.ofChange sealFramesSpec)) sealFramesCard

/-- THE TIED CARD OF 'folkmootlaw02.SealFirst'. -/
def sealFirstCard : Claim7 := { stood := { row := sealFirstRow, standIns := [], harness := (true, "f54a9f2cce1a68aa1d99d56b1df019b9ac76c0b425fd77492920b3fb031b09bd"), looks := false }, kinds := [], alts := [], laidByText := true, laidKinds := [.data], laidTests := true, laidLooks := .later }
def SealFirstCardSaid : Prop := Claim7.holds Tryd.pinned (.plain (OpenSpec.ofChange sealFirstSpec)) sealFirstCard

/-- THE TIED CARD OF 'folkmootlaw02.SealBack'. -/
def sealBackCard : Claim7 := { stood := { row := sealBackRow, standIns := [], harness := (true, "f54a9f2cce1a68aa1d99d56b1df019b9ac76c0b425fd77492920b3fb031b09bd"), looks := false }, kinds := [], alts := [], laidByText := true, laidKinds := [.data], laidTests := true, laidLooks := .later }
def SealBackCardSaid : Prop := Claim7.holds Tryd.pinned (.plain (OpenSpec.ofChange sealBackSpec)) sealBackCard

/-- THE TIED CARD OF 'folkmootlaw02.SealByte'. -/
def sealByteCard : Claim7 := { stood := { row := sealByteRow, standIns := [], harness := (true, "f54a9f2cce1a68aa1d99d56b1df019b9ac76c0b425fd77492920b3fb031b09bd"), looks := false }, kinds := [], alts := [], laidByText := true, laidKinds := [.data], laidTests := true, laidLooks := .later }
def SealByteCardSaid : Prop := Claim7.holds Tryd.pinned (.plain (OpenSpec.ofChange sealByteSpec)) sealByteCard

/-- THE TIED CARD OF 'folkmootlaw02.SealAll'. -/
def sealAllCard : Claim7 := { stood := { row := sealAllRow, standIns := [], harness := (true, "f54a9f2cce1a68aa1d99d56b1df019b9ac76c0b425fd77492920b3fb031b09bd"), looks := false }, kinds := [], alts := [], laidByText := true, laidKinds := [.data], laidTests := true, laidLooks := .later }
def SealAllCardSaid : Prop := Claim7.holds Tryd.pinned (.plain (OpenSpec.ofChange sealAllSpec)) sealAllCard

/-- THE TIED CARD OF 'folkmootlaw02.SealRow'. -/
def sealRowCard : Claim7 := { stood := { row := sealRowRow, standIns := [], harness := (true, "f54a9f2cce1a68aa1d99d56b1df019b9ac76c0b425fd77492920b3fb031b09bd"), looks := false }, kinds := [], alts := [], laidByText := true, laidKinds := [.data], laidTests := true, laidLooks := .later }
def SealRowCardSaid : Prop := Claim7.holds Tryd.pinned (.plain (OpenSpec.ofChange sealRowSpec)) sealRowCard

/-- THE SECOND FORM's CARD OF 'folkmootlaw02.SealSums'. -/
def sealSumsUptoCard : Claim7 := { stood := { row := sealSumsUptoRow, standIns := [], harness := (true, "f54a9f2cce1a68aa1d99d56b1df019b9ac76c0b425fd77492920b3fb031b09bd"), looks := false }, kinds := [], alts := [], laidByText := true, laidKinds := [.data], laidTests := true, laidLooks := .later }
def SealSumsUptoCardSaid : Prop := Claim7.holds Tryd.pinned (.plain (OpenSpec.upto sealSumsSpec)) sealSumsUptoCard

/-- THE SECOND FORM's CARD OF 'folkmootlaw02.SealFrames'. -/
def sealFramesUptoCard : Claim7 := { stood := { row := sealFramesUptoRow, standIns := [], harness := (true, "f54a9f2cce1a68aa1d99d56b1df019b9ac76c0b425fd77492920b3fb031b09bd"), looks := false }, kinds := [], alts := [], laidByText := true, laidKinds := [.data], laidTests := true, laidLooks := .later }
def SealFramesUptoCardSaid : Prop := Claim7.holds Tryd.pinned (.plain (OpenSpec.upto sealFramesSpec)) sealFramesUptoCard

/-- THE SECOND FORM's CARD OF 'folkmootlaw02.SealFirst'. -/
def sealFirstUptoCard : Claim7 := { stood := { row := sealFirstUptoRow, standIns := [], harness := (true, "f54a9f2cce1a68aa1d99d56b1df019b9ac76c0b425fd77492920b3fb031b09bd"), looks := false }, kinds := [], alts := [], laidByText := true, laidKinds := [.data], laidTests := true, laidLooks := .later }
def SealFirstUptoCardSaid : Prop := Claim7.holds Tryd.pinned (.plain (OpenSpec.upto sealFirstSpec)) sealFirstUptoCard

/-- THE SECOND FORM's CARD OF 'folkmootlaw02.SealBack'. -/
def sealBackUptoCard : Claim7 := { stood := { row := sealBackUptoRow, standIns := [], harness := (true, "f54a9f2cce1a68aa1d99d56b1df019b9ac76c0b425fd77492920b3fb031b09bd"), looks := false }, kinds := [], alts := [], laidByText := true, laidKinds := [.data], laidTests := true, laidLooks := .later }
def SealBackUptoCardSaid : Prop := Claim7.holds Tryd.pinned (.plain (OpenSpec.upto sealBackSpec)) sealBackUptoCard

/-- THE SECOND FORM's CARD OF 'folkmootlaw02.SealByte'. -/
def sealByteUptoCard : Claim7 := { stood := { row := sealByteUptoRow, standIns := [], harness := (true, "f54a9f2cce1a68aa1d99d56b1df019b9ac76c0b425fd77492920b3fb031b09bd"), looks := false }, kinds := [], alts := [], laidByText := true, laidKinds := [.data], laidTests := true, laidLooks := .later }
def SealByteUptoCardSaid : Prop := Claim7.holds Tryd.pinned (.plain (OpenSpec.upto sealByteSpec)) sealByteUptoCard

/-- THE SECOND FORM's CARD OF 'folkmootlaw02.SealAll'. -/
def sealAllUptoCard : Claim7 := { stood := { row := sealAllUptoRow, standIns := [], harness := (true, "f54a9f2cce1a68aa1d99d56b1df019b9ac76c0b425fd77492920b3fb031b09bd"), looks := false }, kinds := [], alts := [], laidByText := true, laidKinds := [.data], laidTests := true, laidLooks := .later }
def SealAllUptoCardSaid : Prop := Claim7.holds Tryd.pinned (.plain (OpenSpec.upto sealAllSpec)) sealAllUptoCard

/-- THE SECOND FORM's CARD OF 'folkmootlaw02.SealRow'. -/
def sealRowUptoCard : Claim7 := { stood := { row := sealRowUptoRow, standIns := [], harness := (true, "f54a9f2cce1a68aa1d99d56b1df019b9ac76c0b425fd77492920b3fb031b09bd"), looks := false }, kinds := [], alts := [], laidByText := true, laidKinds := [.data], laidTests := true, laidLooks := .later }
def SealRowUptoCardSaid : Prop := Claim7.holds Tryd.pinned (.plain (OpenSpec.upto sealRowSpec)) sealRowUptoCard
end Rows
end Go.Proofs.YtgfnbfebcejocaaDoor
