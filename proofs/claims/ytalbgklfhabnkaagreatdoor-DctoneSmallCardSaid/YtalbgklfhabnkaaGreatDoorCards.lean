/-
  DERIVED. GIVEN WITH THE SEED: THE CARDS: each row of YtalbgklfhabnkaaGreatDoorRows.lean that lists a variable, with what it lists TIED to the program's text (the seventh form; the later family's looks); each row that meets fmt, with fmt's text TOLD by the authors' own Lean function (tested against real Go, not proved from fmt's source: count such statements apart). THE CARD IS WHAT COUNTS. Prove the row's statement (the work); the ties are given (YtalbgklfhabnkaaGreatDoorTie.lean); close each card by the builder's one call (the guide's Derived/Test/ToyasCard.lean, 'card_holds'). Laid BY PROGRAM, IN A SANDBOX (cutbox-door.mjs). By AI agents, Wed Nov 11 2026. No macro, syntax, notation, axiom, sorry.
-/
import Derived.Test.YtalbgklfhabnkaaGreatDoorRows
import GoSem.ClaimSeven
namespace Go.Proofs.YtalbgklfhabnkaaGreatDoor
namespace Rows

/-- THE TIED CARD OF 'overtonelaw15.IrfftOne'. -/
def irfftOneCard : Claim7 := { stood := { row := irfftOneRow, standIns := [], harness := (true, "26b3549ab73740439043a3784967d34ca8e3e8d017cad4b0390f60ff71a52d9d"), looks := true }, kinds := [], alts := [], laidByText := true, laidKinds := [.data, .data], laidTests := true, laidLooks := .later }
def IrfftOneCardSaid : Prop := Claim7.holds Tryz.pinned (.plain (OpenSpec.ofChange irfftOneSpec)) irfftOneCard

/-- THE TIED CARD OF 'overtonelaw15.IrfftScale'. -/
def irfftScaleCard : Claim7 := { stood := { row := irfftScaleRow, standIns := [], harness := (true, "26b3549ab73740439043a3784967d34ca8e3e8d017cad4b0390f60ff71a52d9d"), looks := true }, kinds := [], alts := [], laidByText := true, laidKinds := [.data, .data], laidTests := true, laidLooks := .later }
def IrfftScaleCardSaid : Prop := Claim7.holds Tryz.pinned (.plain (OpenSpec.ofChange irfftScaleSpec)) irfftScaleCard

/-- THE TIED CARD OF 'overtonelaw15.IrfftGiven'. -/
def irfftGivenCard : Claim7 := { stood := { row := irfftGivenRow, standIns := [], harness := (true, "26b3549ab73740439043a3784967d34ca8e3e8d017cad4b0390f60ff71a52d9d"), looks := true }, kinds := [], alts := [], laidByText := true, laidKinds := [.data, .data], laidTests := true, laidLooks := .later }
def IrfftGivenCardSaid : Prop := Claim7.holds Tryz.pinned (.plain (OpenSpec.ofChange irfftGivenSpec)) irfftGivenCard

/-- THE TIED CARD OF 'overtonelaw18.DctoneSmall'. -/
def dctoneSmallCard : Claim7 := { stood := { row := dctoneSmallRow, standIns := [], harness := (true, "26b3549ab73740439043a3784967d34ca8e3e8d017cad4b0390f60ff71a52d9d"), looks := true }, kinds := [], alts := [], laidByText := true, laidKinds := [.data, .data], laidTests := true, laidLooks := .later }
def DctoneSmallCardSaid : Prop := Claim7.holds Tryz.pinned (.plain (OpenSpec.ofChange dctoneSmallSpec)) dctoneSmallCard

/-- THE TIED CARD OF 'overtonelaw18.DctoneScale'. -/
def dctoneScaleCard : Claim7 := { stood := { row := dctoneScaleRow, standIns := [], harness := (true, "26b3549ab73740439043a3784967d34ca8e3e8d017cad4b0390f60ff71a52d9d"), looks := true }, kinds := [], alts := [], laidByText := true, laidKinds := [.data, .data], laidTests := true, laidLooks := .later }
def DctoneScaleCardSaid : Prop := Claim7.holds Tryz.pinned (.plain (OpenSpec.ofChange dctoneScaleSpec)) dctoneScaleCard

/-- THE TIED CARD OF 'overtonelaw18.DctoneGiven'. -/
def dctoneGivenCard : Claim7 := { stood := { row := dctoneGivenRow, standIns := [], harness := (true, "26b3549ab73740439043a3784967d34ca8e3e8d017cad4b0390f60ff71a52d9d"), looks := true }, kinds := [], alts := [], laidByText := true, laidKinds := [.data, .data], laidTests := true, laidLooks := .later }
def DctoneGivenCardSaid : Prop := Claim7.holds Tryz.pinned (.plain (OpenSpec.ofChange dctoneGivenSpec)) dctoneGivenCard

/-- THE TIED CARD OF 'overtonelaw16.DcttwoOne'. -/
def dcttwoOneCard : Claim7 := { stood := { row := dcttwoOneRow, standIns := [], harness := (true, "26b3549ab73740439043a3784967d34ca8e3e8d017cad4b0390f60ff71a52d9d"), looks := true }, kinds := [], alts := [], laidByText := true, laidKinds := [.data, .data, .handle], laidTests := true, laidLooks := .later }
def DcttwoOneCardSaid : Prop := Claim7.holds Tryz.pinned (.plain (OpenSpec.ofChange dcttwoOneSpec)) dcttwoOneCard

/-- THE TIED CARD OF 'overtonelaw16.DcttwoScale'. -/
def dcttwoScaleCard : Claim7 := { stood := { row := dcttwoScaleRow, standIns := [], harness := (true, "26b3549ab73740439043a3784967d34ca8e3e8d017cad4b0390f60ff71a52d9d"), looks := true }, kinds := [], alts := [], laidByText := true, laidKinds := [.data, .data, .handle], laidTests := true, laidLooks := .later }
def DcttwoScaleCardSaid : Prop := Claim7.holds Tryz.pinned (.plain (OpenSpec.ofChange dcttwoScaleSpec)) dcttwoScaleCard

/-- THE TIED CARD OF 'overtonelaw16.DcttwoGiven'. -/
def dcttwoGivenCard : Claim7 := { stood := { row := dcttwoGivenRow, standIns := [], harness := (true, "26b3549ab73740439043a3784967d34ca8e3e8d017cad4b0390f60ff71a52d9d"), looks := true }, kinds := [], alts := [], laidByText := true, laidKinds := [.data, .data, .handle], laidTests := true, laidLooks := .later }
def DcttwoGivenCardSaid : Prop := Claim7.holds Tryz.pinned (.plain (OpenSpec.ofChange dcttwoGivenSpec)) dcttwoGivenCard

/-- THE TIED CARD OF 'overtonelaw19.DstOne'. -/
def dstOneCard : Claim7 := { stood := { row := dstOneRow, standIns := [], harness := (true, "26b3549ab73740439043a3784967d34ca8e3e8d017cad4b0390f60ff71a52d9d"), looks := true }, kinds := [], alts := [], laidByText := true, laidKinds := [.data, .data, .handle], laidTests := true, laidLooks := .later }
def DstOneCardSaid : Prop := Claim7.holds Tryz.pinned (.plain (OpenSpec.ofChange dstOneSpec)) dstOneCard

/-- THE TIED CARD OF 'overtonelaw19.DstScale'. -/
def dstScaleCard : Claim7 := { stood := { row := dstScaleRow, standIns := [], harness := (true, "26b3549ab73740439043a3784967d34ca8e3e8d017cad4b0390f60ff71a52d9d"), looks := true }, kinds := [], alts := [], laidByText := true, laidKinds := [.data, .data, .handle], laidTests := true, laidLooks := .later }
def DstScaleCardSaid : Prop := Claim7.holds Tryz.pinned (.plain (OpenSpec.ofChange dstScaleSpec)) dstScaleCard

/-- THE TIED CARD OF 'overtonelaw19.DstGiven'. -/
def dstGivenCard : Claim7 := { stood := { row := dstGivenRow, standIns := [], harness := (true, "26b3549ab73740439043a3784967d34ca8e3e8d017cad4b0390f60ff71a52d9d"), looks := true }, kinds := [], alts := [], laidByText := true, laidKinds := [.data, .data, .handle], laidTests := true, laidLooks := .later }
def DstGivenCardSaid : Prop := Claim7.holds Tryz.pinned (.plain (OpenSpec.ofChange dstGivenSpec)) dstGivenCard

/-- THE SECOND FORM's CARD OF 'overtonelaw15.IrfftOne'. -/
def irfftOneUptoCard : Claim7 := { stood := { row := irfftOneUptoRow, standIns := [], harness := (true, "26b3549ab73740439043a3784967d34ca8e3e8d017cad4b0390f60ff71a52d9d"), looks := true }, kinds := [], alts := [], laidByText := true, laidKinds := [.data, .data], laidTests := true, laidLooks := .later }
def IrfftOneUptoCardSaid : Prop := Claim7.holds Tryz.pinned (.plain (OpenSpec.upto irfftOneSpec)) irfftOneUptoCard

/-- THE SECOND FORM's CARD OF 'overtonelaw15.IrfftScale'. -/
def irfftScaleUptoCard : Claim7 := { stood := { row := irfftScaleUptoRow, standIns := [], harness := (true, "26b3549ab73740439043a3784967d34ca8e3e8d017cad4b0390f60ff71a52d9d"), looks := true }, kinds := [], alts := [], laidByText := true, laidKinds := [.data, .data], laidTests := true, laidLooks := .later }
def IrfftScaleUptoCardSaid : Prop := Claim7.holds Tryz.pinned (.plain (OpenSpec.upto irfftScaleSpec)) irfftScaleUptoCard

/-- THE SECOND FORM's CARD OF 'overtonelaw15.IrfftGiven'. -/
def irfftGivenUptoCard : Claim7 := { stood := { row := irfftGivenUptoRow, standIns := [], harness := (true, "26b3549ab73740439043a3784967d34ca8e3e8d017cad4b0390f60ff71a52d9d"), looks := true }, kinds := [], alts := [], laidByText := true, laidKinds := [.data, .data], laidTests := true, laidLooks := .later }
def IrfftGivenUptoCardSaid : Prop := Claim7.holds Tryz.pinned (.plain (OpenSpec.upto irfftGivenSpec)) irfftGivenUptoCard

/-- THE SECOND FORM's CARD OF 'overtonelaw18.DctoneSmall'. -/
def dctoneSmallUptoCard : Claim7 := { stood := { row := dctoneSmallUptoRow, standIns := [], harness := (true, "26b3549ab73740439043a3784967d34ca8e3e8d017cad4b0390f60ff71a52d9d"), looks := true }, kinds := [], alts := [], laidByText := true, laidKinds := [.data, .data], laidTests := true, laidLooks := .later }
def DctoneSmallUptoCardSaid : Prop := Claim7.holds Tryz.pinned (.plain (OpenSpec.upto dctoneSmallSpec)) dctoneSmallUptoCard

/-- THE SECOND FORM's CARD OF 'overtonelaw18.DctoneScale'. -/
def dctoneScaleUptoCard : Claim7 := { stood := { row := dctoneScaleUptoRow, standIns := [], harness := (true, "26b3549ab73740439043a3784967d34ca8e3e8d017cad4b0390f60ff71a52d9d"), looks := true }, kinds := [], alts := [], laidByText := true, laidKinds := [.data, .data], laidTests := true, laidLooks := .later }
def DctoneScaleUptoCardSaid : Prop := Claim7.holds Tryz.pinned (.plain (OpenSpec.upto dctoneScaleSpec)) dctoneScaleUptoCard

/-- THE SECOND FORM's CARD OF 'overtonelaw18.DctoneGiven'. -/
def dctoneGivenUptoCard : Claim7 := { stood := { row := dctoneGivenUptoRow, standIns := [], harness := (true, "26b3549ab73740439043a3784967d34ca8e3e8d017cad4b0390f60ff71a52d9d"), looks := true }, kinds := [], alts := [], laidByText := true, laidKinds := [.data, .data], laidTests := true, laidLooks := .later }
def DctoneGivenUptoCardSaid : Prop := Claim7.holds Tryz.pinned (.plain (OpenSpec.upto dctoneGivenSpec)) dctoneGivenUptoCard

/-- THE SECOND FORM's CARD OF 'overtonelaw16.DcttwoOne'. -/
def dcttwoOneUptoCard : Claim7 := { stood := { row := dcttwoOneUptoRow, standIns := [], harness := (true, "26b3549ab73740439043a3784967d34ca8e3e8d017cad4b0390f60ff71a52d9d"), looks := true }, kinds := [], alts := [], laidByText := true, laidKinds := [.data, .data, .handle], laidTests := true, laidLooks := .later }
def DcttwoOneUptoCardSaid : Prop := Claim7.holds Tryz.pinned (.plain (OpenSpec.upto dcttwoOneSpec)) dcttwoOneUptoCard

/-- THE SECOND FORM's CARD OF 'overtonelaw16.DcttwoScale'. -/
def dcttwoScaleUptoCard : Claim7 := { stood := { row := dcttwoScaleUptoRow, standIns := [], harness := (true, "26b3549ab73740439043a3784967d34ca8e3e8d017cad4b0390f60ff71a52d9d"), looks := true }, kinds := [], alts := [], laidByText := true, laidKinds := [.data, .data, .handle], laidTests := true, laidLooks := .later }
def DcttwoScaleUptoCardSaid : Prop := Claim7.holds Tryz.pinned (.plain (OpenSpec.upto dcttwoScaleSpec)) dcttwoScaleUptoCard

/-- THE SECOND FORM's CARD OF 'overtonelaw16.DcttwoGiven'. -/
def dcttwoGivenUptoCard : Claim7 := { stood := { row := dcttwoGivenUptoRow, standIns := [], harness := (true, "26b3549ab73740439043a3784967d34ca8e3e8d017cad4b0390f60ff71a52d9d"), looks := true }, kinds := [], alts := [], laidByText := true, laidKinds := [.data, .data, .handle], laidTests := true, laidLooks := .later }
def DcttwoGivenUptoCardSaid : Prop := Claim7.holds Tryz.pinned (.plain (OpenSpec.upto dcttwoGivenSpec)) dcttwoGivenUptoCard

/-- THE SECOND FORM's CARD OF 'overtonelaw19.DstOne'. -/
def dstOneUptoCard : Claim7 := { stood := { row := dstOneUptoRow, standIns := [], harness := (true, "26b3549ab73740439043a3784967d34ca8e3e8d017cad4b0390f60ff71a52d9d"), looks := true }, kinds := [], alts := [], laidByText := true, laidKinds := [.data, .data, .handle], laidTests := true, laidLooks := .later }
def DstOneUptoCardSaid : Prop := Claim7.holds Tryz.pinned (.plain (OpenSpec.upto dstOneSpec)) dstOneUptoCard

/-- THE SECOND FORM's CARD OF 'overtonelaw19.DstScale'. -/
def dstScaleUptoCard : Claim7 := { stood := { row := dstScaleUptoRow, standIns := [], harness := (true, "26b3549ab73740439043a3784967d34ca8e3e8d017cad4b0390f60ff71a52d9d"), looks := true }, kinds := [], alts := [], laidByText := true, laidKinds := [.data, .data, .handle], laidTests := true, laidLooks := .later }
def DstScaleUptoCardSaid : Prop := Claim7.holds Tryz.pinned (.plain (OpenSpec.upto dstScaleSpec)) dstScaleUptoCard

/-- THE SECOND FORM's CARD OF 'overtonelaw19.DstGiven'. -/
def dstGivenUptoCard : Claim7 := { stood := { row := dstGivenUptoRow, standIns := [], harness := (true, "26b3549ab73740439043a3784967d34ca8e3e8d017cad4b0390f60ff71a52d9d"), looks := true }, kinds := [], alts := [], laidByText := true, laidKinds := [.data, .data, .handle], laidTests := true, laidLooks := .later }
def DstGivenUptoCardSaid : Prop := Claim7.holds Tryz.pinned (.plain (OpenSpec.upto dstGivenSpec)) dstGivenUptoCard
end Rows
end Go.Proofs.YtalbgklfhabnkaaGreatDoor
