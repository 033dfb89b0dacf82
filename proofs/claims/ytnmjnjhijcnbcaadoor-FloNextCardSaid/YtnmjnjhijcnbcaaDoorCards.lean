/-
  DERIVED. GIVEN WITH THE SEED: THE CARDS: each row of YtnmjnjhijcnbcaaDoorRows.lean that lists a variable, with what it lists TIED to the program's text (the seventh form; the later family's looks); each row that meets fmt, with fmt's text TOLD by the authors' own Lean function (tested against real Go, not proved from fmt's source: count such statements apart). THE CARD IS WHAT COUNTS. Prove the row's statement (the work); the ties are given (YtnmjnjhijcnbcaaDoorTie.lean); close each card by the builder's one call (the guide's Derived/Test/ToyasCard.lean, 'card_holds'). Laid BY PROGRAM, IN A SANDBOX (cutbox-door.mjs). By AI agents, Wed Nov 11 2026. No macro, syntax, notation, axiom, sorry.
-/
import Derived.Test.YtnmjnjhijcnbcaaDoorRows
import GoSem.ClaimSeven
namespace Go.Proofs.YtnmjnjhijcnbcaaDoor
namespace Rows

/-- THE TIED CARD OF 'overtonelaw02.DyaTells'. -/
def dyaTellsCard : Claim7 := { stood := { row := dyaTellsRow, standIns := [], harness := (true, "29e0f3279eef5789d96a77e2e87a90cd34b45c7a29262d0852a72bc6a3da477b"), looks := false }, kinds := [], alts := [], laidByText := true, laidKinds := [.data, .data], laidTests := true, laidLooks := .later }
def DyaTellsCardSaid : Prop := Claim7.holds Tryd.pinned (.plain (OpenSpec.ofChange dyaTellsSpec)) dyaTellsCard

/-- THE TIED CARD OF 'overtonelaw02.DyaRing'. -/
def dyaRingCard : Claim7 := { stood := { row := dyaRingRow, standIns := [], harness := (true, "29e0f3279eef5789d96a77e2e87a90cd34b45c7a29262d0852a72bc6a3da477b"), looks := false }, kinds := [], alts := [], laidByText := true, laidKinds := [.data, .data], laidTests := true, laidLooks := .later }
def DyaRingCardSaid : Prop := Claim7.holds Tryd.pinned (.plain (OpenSpec.ofChange dyaRingSpec)) dyaRingCard

/-- THE TIED CARD OF 'overtonelaw02.DyaOrder'. -/
def dyaOrderCard : Claim7 := { stood := { row := dyaOrderRow, standIns := [], harness := (true, "29e0f3279eef5789d96a77e2e87a90cd34b45c7a29262d0852a72bc6a3da477b"), looks := false }, kinds := [], alts := [], laidByText := true, laidKinds := [.data, .data], laidTests := true, laidLooks := .later }
def DyaOrderCardSaid : Prop := Claim7.holds Tryd.pinned (.plain (OpenSpec.ofChange dyaOrderSpec)) dyaOrderCard

/-- THE TIED CARD OF 'overtonelaw02.DyaCut'. -/
def dyaCutCard : Claim7 := { stood := { row := dyaCutRow, standIns := [], harness := (true, "29e0f3279eef5789d96a77e2e87a90cd34b45c7a29262d0852a72bc6a3da477b"), looks := false }, kinds := [], alts := [], laidByText := true, laidKinds := [.data, .data], laidTests := true, laidLooks := .later }
def DyaCutCardSaid : Prop := Claim7.holds Tryd.pinned (.plain (OpenSpec.ofChange dyaCutSpec)) dyaCutCard

/-- THE TIED CARD OF 'overtonelaw02.DyaShift'. -/
def dyaShiftCard : Claim7 := { stood := { row := dyaShiftRow, standIns := [], harness := (true, "29e0f3279eef5789d96a77e2e87a90cd34b45c7a29262d0852a72bc6a3da477b"), looks := false }, kinds := [], alts := [], laidByText := true, laidKinds := [.data, .data], laidTests := true, laidLooks := .later }
def DyaShiftCardSaid : Prop := Claim7.holds Tryd.pinned (.plain (OpenSpec.ofChange dyaShiftSpec)) dyaShiftCard

/-- THE TIED CARD OF 'overtonelaw02.DyaInts'. -/
def dyaIntsCard : Claim7 := { stood := { row := dyaIntsRow, standIns := [], harness := (true, "29e0f3279eef5789d96a77e2e87a90cd34b45c7a29262d0852a72bc6a3da477b"), looks := false }, kinds := [], alts := [], laidByText := true, laidKinds := [.data, .data], laidTests := true, laidLooks := .later }
def DyaIntsCardSaid : Prop := Claim7.holds Tryd.pinned (.plain (OpenSpec.ofChange dyaIntsSpec)) dyaIntsCard

/-- THE TIED CARD OF 'overtonelaw03.FloTells'. -/
def floTellsCard : Claim7 := { stood := { row := floTellsRow, standIns := [], harness := (true, "29e0f3279eef5789d96a77e2e87a90cd34b45c7a29262d0852a72bc6a3da477b"), looks := false }, kinds := [], alts := [], laidByText := true, laidKinds := [.data, .data], laidTests := true, laidLooks := .later }
def FloTellsCardSaid : Prop := Claim7.holds Tryd.pinned (.plain (OpenSpec.ofChange floTellsSpec)) floTellsCard

/-- THE TIED CARD OF 'overtonelaw03.FloBack'. -/
def floBackCard : Claim7 := { stood := { row := floBackRow, standIns := [], harness := (true, "29e0f3279eef5789d96a77e2e87a90cd34b45c7a29262d0852a72bc6a3da477b"), looks := false }, kinds := [], alts := [], laidByText := true, laidKinds := [.data, .data], laidTests := true, laidLooks := .later }
def FloBackCardSaid : Prop := Claim7.holds Tryd.pinned (.plain (OpenSpec.ofChange floBackSpec)) floBackCard

/-- THE TIED CARD OF 'overtonelaw03.FloNear'. -/
def floNearCard : Claim7 := { stood := { row := floNearRow, standIns := [], harness := (true, "29e0f3279eef5789d96a77e2e87a90cd34b45c7a29262d0852a72bc6a3da477b"), looks := false }, kinds := [], alts := [], laidByText := true, laidKinds := [.data, .data], laidTests := true, laidLooks := .later }
def FloNearCardSaid : Prop := Claim7.holds Tryd.pinned (.plain (OpenSpec.ofChange floNearSpec)) floNearCard

/-- THE TIED CARD OF 'overtonelaw03.FloOrder'. -/
def floOrderCard : Claim7 := { stood := { row := floOrderRow, standIns := [], harness := (true, "29e0f3279eef5789d96a77e2e87a90cd34b45c7a29262d0852a72bc6a3da477b"), looks := false }, kinds := [], alts := [], laidByText := true, laidKinds := [.data, .data], laidTests := true, laidLooks := .later }
def FloOrderCardSaid : Prop := Claim7.holds Tryd.pinned (.plain (OpenSpec.ofChange floOrderSpec)) floOrderCard

/-- THE TIED CARD OF 'overtonelaw03.FloNext'. -/
def floNextCard : Claim7 := { stood := { row := floNextRow, standIns := [], harness := (true, "29e0f3279eef5789d96a77e2e87a90cd34b45c7a29262d0852a72bc6a3da477b"), looks := false }, kinds := [], alts := [], laidByText := true, laidKinds := [.data, .data], laidTests := true, laidLooks := .later }
def FloNextCardSaid : Prop := Claim7.holds Tryd.pinned (.plain (OpenSpec.ofChange floNextSpec)) floNextCard

/-- THE TIED CARD OF 'overtonelaw03.FloScale'. -/
def floScaleCard : Claim7 := { stood := { row := floScaleRow, standIns := [], harness := (true, "29e0f3279eef5789d96a77e2e87a90cd34b45c7a29262d0852a72bc6a3da477b"), looks := false }, kinds := [], alts := [], laidByText := true, laidKinds := [.data, .data], laidTests := true, laidLooks := .later }
def FloScaleCardSaid : Prop := Claim7.holds Tryd.pinned (.plain (OpenSpec.ofChange floScaleSpec)) floScaleCard

/-- THE SECOND FORM's CARD OF 'overtonelaw02.DyaTells'. -/
def dyaTellsUptoCard : Claim7 := { stood := { row := dyaTellsUptoRow, standIns := [], harness := (true, "29e0f3279eef5789d96a77e2e87a90cd34b45c7a29262d0852a72bc6a3da477b"), looks := false }, kinds := [], alts := [], laidByText := true, laidKinds := [.data, .data], laidTests := true, laidLooks := .later }
def DyaTellsUptoCardSaid : Prop := Claim7.holds Tryd.pinned (.plain (OpenSpec.upto dyaTellsSpec)) dyaTellsUptoCard

/-- THE SECOND FORM's CARD OF 'overtonelaw02.DyaRing'. -/
def dyaRingUptoCard : Claim7 := { stood := { row := dyaRingUptoRow, standIns := [], harness := (true, "29e0f3279eef5789d96a77e2e87a90cd34b45c7a29262d0852a72bc6a3da477b"), looks := false }, kinds := [], alts := [], laidByText := true, laidKinds := [.data, .data], laidTests := true, laidLooks := .later }
def DyaRingUptoCardSaid : Prop := Claim7.holds Tryd.pinned (.plain (OpenSpec.upto dyaRingSpec)) dyaRingUptoCard

/-- THE SECOND FORM's CARD OF 'overtonelaw02.DyaOrder'. -/
def dyaOrderUptoCard : Claim7 := { stood := { row := dyaOrderUptoRow, standIns := [], harness := (true, "29e0f3279eef5789d96a77e2e87a90cd34b45c7a29262d0852a72bc6a3da477b"), looks := false }, kinds := [], alts := [], laidByText := true, laidKinds := [.data, .data], laidTests := true, laidLooks := .later }
def DyaOrderUptoCardSaid : Prop := Claim7.holds Tryd.pinned (.plain (OpenSpec.upto dyaOrderSpec)) dyaOrderUptoCard

/-- THE SECOND FORM's CARD OF 'overtonelaw02.DyaCut'. -/
def dyaCutUptoCard : Claim7 := { stood := { row := dyaCutUptoRow, standIns := [], harness := (true, "29e0f3279eef5789d96a77e2e87a90cd34b45c7a29262d0852a72bc6a3da477b"), looks := false }, kinds := [], alts := [], laidByText := true, laidKinds := [.data, .data], laidTests := true, laidLooks := .later }
def DyaCutUptoCardSaid : Prop := Claim7.holds Tryd.pinned (.plain (OpenSpec.upto dyaCutSpec)) dyaCutUptoCard

/-- THE SECOND FORM's CARD OF 'overtonelaw02.DyaShift'. -/
def dyaShiftUptoCard : Claim7 := { stood := { row := dyaShiftUptoRow, standIns := [], harness := (true, "29e0f3279eef5789d96a77e2e87a90cd34b45c7a29262d0852a72bc6a3da477b"), looks := false }, kinds := [], alts := [], laidByText := true, laidKinds := [.data, .data], laidTests := true, laidLooks := .later }
def DyaShiftUptoCardSaid : Prop := Claim7.holds Tryd.pinned (.plain (OpenSpec.upto dyaShiftSpec)) dyaShiftUptoCard

/-- THE SECOND FORM's CARD OF 'overtonelaw02.DyaInts'. -/
def dyaIntsUptoCard : Claim7 := { stood := { row := dyaIntsUptoRow, standIns := [], harness := (true, "29e0f3279eef5789d96a77e2e87a90cd34b45c7a29262d0852a72bc6a3da477b"), looks := false }, kinds := [], alts := [], laidByText := true, laidKinds := [.data, .data], laidTests := true, laidLooks := .later }
def DyaIntsUptoCardSaid : Prop := Claim7.holds Tryd.pinned (.plain (OpenSpec.upto dyaIntsSpec)) dyaIntsUptoCard

/-- THE SECOND FORM's CARD OF 'overtonelaw03.FloTells'. -/
def floTellsUptoCard : Claim7 := { stood := { row := floTellsUptoRow, standIns := [], harness := (true, "29e0f3279eef5789d96a77e2e87a90cd34b45c7a29262d0852a72bc6a3da477b"), looks := false }, kinds := [], alts := [], laidByText := true, laidKinds := [.data, .data], laidTests := true, laidLooks := .later }
def FloTellsUptoCardSaid : Prop := Claim7.holds Tryd.pinned (.plain (OpenSpec.upto floTellsSpec)) floTellsUptoCard

/-- THE SECOND FORM's CARD OF 'overtonelaw03.FloBack'. -/
def floBackUptoCard : Claim7 := { stood := { row := floBackUptoRow, standIns := [], harness := (true, "29e0f3279eef5789d96a77e2e87a90cd34b45c7a29262d0852a72bc6a3da477b"), looks := false }, kinds := [], alts := [], laidByText := true, laidKinds := [.data, .data], laidTests := true, laidLooks := .later }
def FloBackUptoCardSaid : Prop := Claim7.holds Tryd.pinned (.plain (OpenSpec.upto floBackSpec)) floBackUptoCard

/-- THE SECOND FORM's CARD OF 'overtonelaw03.FloNear'. -/
def floNearUptoCard : Claim7 := { stood := { row := floNearUptoRow, standIns := [], harness := (true, "29e0f3279eef5789d96a77e2e87a90cd34b45c7a29262d0852a72bc6a3da477b"), looks := false }, kinds := [], alts := [], laidByText := true, laidKinds := [.data, .data], laidTests := true, laidLooks := .later }
def FloNearUptoCardSaid : Prop := Claim7.holds Tryd.pinned (.plain (OpenSpec.upto floNearSpec)) floNearUptoCard

/-- THE SECOND FORM's CARD OF 'overtonelaw03.FloOrder'. -/
def floOrderUptoCard : Claim7 := { stood := { row := floOrderUptoRow, standIns := [], harness := (true, "29e0f3279eef5789d96a77e2e87a90cd34b45c7a29262d0852a72bc6a3da477b"), looks := false }, kinds := [], alts := [], laidByText := true, laidKinds := [.data, .data], laidTests := true, laidLooks := .later }
def FloOrderUptoCardSaid : Prop := Claim7.holds Tryd.pinned (.plain (OpenSpec.upto floOrderSpec)) floOrderUptoCard

/-- THE SECOND FORM's CARD OF 'overtonelaw03.FloNext'. -/
def floNextUptoCard : Claim7 := { stood := { row := floNextUptoRow, standIns := [], harness := (true, "29e0f3279eef5789d96a77e2e87a90cd34b45c7a29262d0852a72bc6a3da477b"), looks := false }, kinds := [], alts := [], laidByText := true, laidKinds := [.data, .data], laidTests := true, laidLooks := .later }
def FloNextUptoCardSaid : Prop := Claim7.holds Tryd.pinned (.plain (OpenSpec.upto floNextSpec)) floNextUptoCard

/-- THE SECOND FORM's CARD OF 'overtonelaw03.FloScale'. -/
def floScaleUptoCard : Claim7 := { stood := { row := floScaleUptoRow, standIns := [], harness := (true, "29e0f3279eef5789d96a77e2e87a90cd34b45c7a29262d0852a72bc6a3da477b"), looks := false }, kinds := [], alts := [], laidByText := true, laidKinds := [.data, .data], laidTests := true, laidLooks := .later }
def FloScaleUptoCardSaid : Prop := Claim7.holds Tryd.pinned (.plain (OpenSpec.upto floScaleSpec)) floScaleUptoCard
end Rows
end Go.Proofs.YtnmjnjhijcnbcaaDoor
