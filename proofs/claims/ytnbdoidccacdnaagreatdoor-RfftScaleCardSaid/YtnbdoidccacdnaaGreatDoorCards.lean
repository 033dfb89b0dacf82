/-
  DERIVED. GIVEN WITH THE SEED: THE CARDS: each row of YtnbdoidccacdnaaGreatDoorRows.lean that lists a variable, with what it lists TIED to the program's text (the seventh form; the later family's looks); each row that meets fmt, with fmt's text TOLD by the authors' own Lean function (tested against real Go, not proved from fmt's source: count such statements apart). THE CARD IS WHAT COUNTS. Prove the row's statement (the work); the ties are given (YtnbdoidccacdnaaGreatDoorTie.lean); close each card by the builder's one call (the guide's Derived/Test/ToyasCard.lean, 'card_holds'). Laid BY PROGRAM, IN A SANDBOX (cutbox-door.mjs). By AI agents, Wed Nov 11 2026. No macro, syntax, notation, axiom, sorry.
-/
import Derived.Test.YtnbdoidccacdnaaGreatDoorRows
import GoSem.ClaimSeven
namespace Go.Proofs.YtnbdoidccacdnaaGreatDoor
namespace Rows

/-- THE TIED CARD OF 'overtonelaw13.InvTells'. -/
def invTellsCard : Claim7 := { stood := { row := invTellsRow, standIns := [], harness := (true, "707a799358c1e3f9c6b0a5daeeab26e6df2a0c4e52a3b89eec9ccd0dd5da19c5"), looks := true }, kinds := [], alts := [], laidByText := true, laidKinds := [.data, .data], laidTests := true, laidLooks := .later }
def InvTellsCardSaid : Prop := Claim7.holds Tryz.pinned (.plain (OpenSpec.ofChange invTellsSpec)) invTellsCard

/-- THE TIED CARD OF 'overtonelaw13.InvNear'. -/
def invNearCard : Claim7 := { stood := { row := invNearRow, standIns := [], harness := (true, "707a799358c1e3f9c6b0a5daeeab26e6df2a0c4e52a3b89eec9ccd0dd5da19c5"), looks := true }, kinds := [], alts := [], laidByText := true, laidKinds := [.data, .data], laidTests := true, laidLooks := .later }
def InvNearCardSaid : Prop := Claim7.holds Tryz.pinned (.plain (OpenSpec.ofChange invNearSpec)) invNearCard

/-- THE TIED CARD OF 'overtonelaw13.InvGiven'. -/
def invGivenCard : Claim7 := { stood := { row := invGivenRow, standIns := [], harness := (true, "707a799358c1e3f9c6b0a5daeeab26e6df2a0c4e52a3b89eec9ccd0dd5da19c5"), looks := true }, kinds := [], alts := [], laidByText := true, laidKinds := [.data, .data], laidTests := true, laidLooks := .later }
def InvGivenCardSaid : Prop := Claim7.holds Tryz.pinned (.plain (OpenSpec.ofChange invGivenSpec)) invGivenCard

/-- THE TIED CARD OF 'overtonelaw13.InvOne'. -/
def invOneCard : Claim7 := { stood := { row := invOneRow, standIns := [], harness := (true, "707a799358c1e3f9c6b0a5daeeab26e6df2a0c4e52a3b89eec9ccd0dd5da19c5"), looks := true }, kinds := [], alts := [], laidByText := true, laidKinds := [.data, .data], laidTests := true, laidLooks := .later }
def InvOneCardSaid : Prop := Claim7.holds Tryz.pinned (.plain (OpenSpec.ofChange invOneSpec)) invOneCard

/-- THE TIED CARD OF 'overtonelaw14.RfftTells'. -/
def rfftTellsCard : Claim7 := { stood := { row := rfftTellsRow, standIns := [], harness := (true, "707a799358c1e3f9c6b0a5daeeab26e6df2a0c4e52a3b89eec9ccd0dd5da19c5"), looks := true }, kinds := [], alts := [], laidByText := true, laidKinds := [.data, .data], laidTests := true, laidLooks := .later }
def RfftTellsCardSaid : Prop := Claim7.holds Tryz.pinned (.plain (OpenSpec.ofChange rfftTellsSpec)) rfftTellsCard

/-- THE TIED CARD OF 'overtonelaw14.RfftNear'. -/
def rfftNearCard : Claim7 := { stood := { row := rfftNearRow, standIns := [], harness := (true, "707a799358c1e3f9c6b0a5daeeab26e6df2a0c4e52a3b89eec9ccd0dd5da19c5"), looks := true }, kinds := [], alts := [], laidByText := true, laidKinds := [.data, .data], laidTests := true, laidLooks := .later }
def RfftNearCardSaid : Prop := Claim7.holds Tryz.pinned (.plain (OpenSpec.ofChange rfftNearSpec)) rfftNearCard

/-- THE TIED CARD OF 'overtonelaw14.RfftBins'. -/
def rfftBinsCard : Claim7 := { stood := { row := rfftBinsRow, standIns := [], harness := (true, "707a799358c1e3f9c6b0a5daeeab26e6df2a0c4e52a3b89eec9ccd0dd5da19c5"), looks := true }, kinds := [], alts := [], laidByText := true, laidKinds := [.data, .data], laidTests := true, laidLooks := .later }
def RfftBinsCardSaid : Prop := Claim7.holds Tryz.pinned (.plain (OpenSpec.ofChange rfftBinsSpec)) rfftBinsCard

/-- THE TIED CARD OF 'overtonelaw14.RfftOne'. -/
def rfftOneCard : Claim7 := { stood := { row := rfftOneRow, standIns := [], harness := (true, "707a799358c1e3f9c6b0a5daeeab26e6df2a0c4e52a3b89eec9ccd0dd5da19c5"), looks := true }, kinds := [], alts := [], laidByText := true, laidKinds := [.data, .data], laidTests := true, laidLooks := .later }
def RfftOneCardSaid : Prop := Claim7.holds Tryz.pinned (.plain (OpenSpec.ofChange rfftOneSpec)) rfftOneCard

/-- THE TIED CARD OF 'overtonelaw14.RfftScale'. -/
def rfftScaleCard : Claim7 := { stood := { row := rfftScaleRow, standIns := [], harness := (true, "707a799358c1e3f9c6b0a5daeeab26e6df2a0c4e52a3b89eec9ccd0dd5da19c5"), looks := true }, kinds := [], alts := [], laidByText := true, laidKinds := [.data, .data], laidTests := true, laidLooks := .later }
def RfftScaleCardSaid : Prop := Claim7.holds Tryz.pinned (.plain (OpenSpec.ofChange rfftScaleSpec)) rfftScaleCard

/-- THE TIED CARD OF 'overtonelaw14.RfftGiven'. -/
def rfftGivenCard : Claim7 := { stood := { row := rfftGivenRow, standIns := [], harness := (true, "707a799358c1e3f9c6b0a5daeeab26e6df2a0c4e52a3b89eec9ccd0dd5da19c5"), looks := true }, kinds := [], alts := [], laidByText := true, laidKinds := [.data, .data], laidTests := true, laidLooks := .later }
def RfftGivenCardSaid : Prop := Claim7.holds Tryz.pinned (.plain (OpenSpec.ofChange rfftGivenSpec)) rfftGivenCard

/-- THE TIED CARD OF 'overtonelaw13.InvBack'. -/
def invBackCard : Claim7 := { stood := { row := invBackRow, standIns := [], harness := (true, "707a799358c1e3f9c6b0a5daeeab26e6df2a0c4e52a3b89eec9ccd0dd5da19c5"), looks := true }, kinds := [], alts := [], laidByText := true, laidKinds := [.data, .data], laidTests := true, laidLooks := .later }
def InvBackCardSaid : Prop := Claim7.holds Tryz.pinned (.plain (OpenSpec.ofChange invBackSpec)) invBackCard

/-- THE TIED CARD OF 'overtonelaw13.InvSwap'. -/
def invSwapCard : Claim7 := { stood := { row := invSwapRow, standIns := [], harness := (true, "707a799358c1e3f9c6b0a5daeeab26e6df2a0c4e52a3b89eec9ccd0dd5da19c5"), looks := true }, kinds := [], alts := [], laidByText := true, laidKinds := [.data, .data], laidTests := true, laidLooks := .later }
def InvSwapCardSaid : Prop := Claim7.holds Tryz.pinned (.plain (OpenSpec.ofChange invSwapSpec)) invSwapCard

/-- THE SECOND FORM's CARD OF 'overtonelaw13.InvTells'. -/
def invTellsUptoCard : Claim7 := { stood := { row := invTellsUptoRow, standIns := [], harness := (true, "707a799358c1e3f9c6b0a5daeeab26e6df2a0c4e52a3b89eec9ccd0dd5da19c5"), looks := true }, kinds := [], alts := [], laidByText := true, laidKinds := [.data, .data], laidTests := true, laidLooks := .later }
def InvTellsUptoCardSaid : Prop := Claim7.holds Tryz.pinned (.plain (OpenSpec.upto invTellsSpec)) invTellsUptoCard

/-- THE SECOND FORM's CARD OF 'overtonelaw13.InvNear'. -/
def invNearUptoCard : Claim7 := { stood := { row := invNearUptoRow, standIns := [], harness := (true, "707a799358c1e3f9c6b0a5daeeab26e6df2a0c4e52a3b89eec9ccd0dd5da19c5"), looks := true }, kinds := [], alts := [], laidByText := true, laidKinds := [.data, .data], laidTests := true, laidLooks := .later }
def InvNearUptoCardSaid : Prop := Claim7.holds Tryz.pinned (.plain (OpenSpec.upto invNearSpec)) invNearUptoCard

/-- THE SECOND FORM's CARD OF 'overtonelaw13.InvGiven'. -/
def invGivenUptoCard : Claim7 := { stood := { row := invGivenUptoRow, standIns := [], harness := (true, "707a799358c1e3f9c6b0a5daeeab26e6df2a0c4e52a3b89eec9ccd0dd5da19c5"), looks := true }, kinds := [], alts := [], laidByText := true, laidKinds := [.data, .data], laidTests := true, laidLooks := .later }
def InvGivenUptoCardSaid : Prop := Claim7.holds Tryz.pinned (.plain (OpenSpec.upto invGivenSpec)) invGivenUptoCard

/-- THE SECOND FORM's CARD OF 'overtonelaw13.InvOne'. -/
def invOneUptoCard : Claim7 := { stood := { row := invOneUptoRow, standIns := [], harness := (true, "707a799358c1e3f9c6b0a5daeeab26e6df2a0c4e52a3b89eec9ccd0dd5da19c5"), looks := true }, kinds := [], alts := [], laidByText := true, laidKinds := [.data, .data], laidTests := true, laidLooks := .later }
def InvOneUptoCardSaid : Prop := Claim7.holds Tryz.pinned (.plain (OpenSpec.upto invOneSpec)) invOneUptoCard

/-- THE SECOND FORM's CARD OF 'overtonelaw14.RfftTells'. -/
def rfftTellsUptoCard : Claim7 := { stood := { row := rfftTellsUptoRow, standIns := [], harness := (true, "707a799358c1e3f9c6b0a5daeeab26e6df2a0c4e52a3b89eec9ccd0dd5da19c5"), looks := true }, kinds := [], alts := [], laidByText := true, laidKinds := [.data, .data], laidTests := true, laidLooks := .later }
def RfftTellsUptoCardSaid : Prop := Claim7.holds Tryz.pinned (.plain (OpenSpec.upto rfftTellsSpec)) rfftTellsUptoCard

/-- THE SECOND FORM's CARD OF 'overtonelaw14.RfftNear'. -/
def rfftNearUptoCard : Claim7 := { stood := { row := rfftNearUptoRow, standIns := [], harness := (true, "707a799358c1e3f9c6b0a5daeeab26e6df2a0c4e52a3b89eec9ccd0dd5da19c5"), looks := true }, kinds := [], alts := [], laidByText := true, laidKinds := [.data, .data], laidTests := true, laidLooks := .later }
def RfftNearUptoCardSaid : Prop := Claim7.holds Tryz.pinned (.plain (OpenSpec.upto rfftNearSpec)) rfftNearUptoCard

/-- THE SECOND FORM's CARD OF 'overtonelaw14.RfftBins'. -/
def rfftBinsUptoCard : Claim7 := { stood := { row := rfftBinsUptoRow, standIns := [], harness := (true, "707a799358c1e3f9c6b0a5daeeab26e6df2a0c4e52a3b89eec9ccd0dd5da19c5"), looks := true }, kinds := [], alts := [], laidByText := true, laidKinds := [.data, .data], laidTests := true, laidLooks := .later }
def RfftBinsUptoCardSaid : Prop := Claim7.holds Tryz.pinned (.plain (OpenSpec.upto rfftBinsSpec)) rfftBinsUptoCard

/-- THE SECOND FORM's CARD OF 'overtonelaw14.RfftOne'. -/
def rfftOneUptoCard : Claim7 := { stood := { row := rfftOneUptoRow, standIns := [], harness := (true, "707a799358c1e3f9c6b0a5daeeab26e6df2a0c4e52a3b89eec9ccd0dd5da19c5"), looks := true }, kinds := [], alts := [], laidByText := true, laidKinds := [.data, .data], laidTests := true, laidLooks := .later }
def RfftOneUptoCardSaid : Prop := Claim7.holds Tryz.pinned (.plain (OpenSpec.upto rfftOneSpec)) rfftOneUptoCard

/-- THE SECOND FORM's CARD OF 'overtonelaw14.RfftScale'. -/
def rfftScaleUptoCard : Claim7 := { stood := { row := rfftScaleUptoRow, standIns := [], harness := (true, "707a799358c1e3f9c6b0a5daeeab26e6df2a0c4e52a3b89eec9ccd0dd5da19c5"), looks := true }, kinds := [], alts := [], laidByText := true, laidKinds := [.data, .data], laidTests := true, laidLooks := .later }
def RfftScaleUptoCardSaid : Prop := Claim7.holds Tryz.pinned (.plain (OpenSpec.upto rfftScaleSpec)) rfftScaleUptoCard

/-- THE SECOND FORM's CARD OF 'overtonelaw14.RfftGiven'. -/
def rfftGivenUptoCard : Claim7 := { stood := { row := rfftGivenUptoRow, standIns := [], harness := (true, "707a799358c1e3f9c6b0a5daeeab26e6df2a0c4e52a3b89eec9ccd0dd5da19c5"), looks := true }, kinds := [], alts := [], laidByText := true, laidKinds := [.data, .data], laidTests := true, laidLooks := .later }
def RfftGivenUptoCardSaid : Prop := Claim7.holds Tryz.pinned (.plain (OpenSpec.upto rfftGivenSpec)) rfftGivenUptoCard

/-- THE SECOND FORM's CARD OF 'overtonelaw13.InvBack'. -/
def invBackUptoCard : Claim7 := { stood := { row := invBackUptoRow, standIns := [], harness := (true, "707a799358c1e3f9c6b0a5daeeab26e6df2a0c4e52a3b89eec9ccd0dd5da19c5"), looks := true }, kinds := [], alts := [], laidByText := true, laidKinds := [.data, .data], laidTests := true, laidLooks := .later }
def InvBackUptoCardSaid : Prop := Claim7.holds Tryz.pinned (.plain (OpenSpec.upto invBackSpec)) invBackUptoCard

/-- THE SECOND FORM's CARD OF 'overtonelaw13.InvSwap'. -/
def invSwapUptoCard : Claim7 := { stood := { row := invSwapUptoRow, standIns := [], harness := (true, "707a799358c1e3f9c6b0a5daeeab26e6df2a0c4e52a3b89eec9ccd0dd5da19c5"), looks := true }, kinds := [], alts := [], laidByText := true, laidKinds := [.data, .data], laidTests := true, laidLooks := .later }
def InvSwapUptoCardSaid : Prop := Claim7.holds Tryz.pinned (.plain (OpenSpec.upto invSwapSpec)) invSwapUptoCard
end Rows
end Go.Proofs.YtnbdoidccacdnaaGreatDoor
