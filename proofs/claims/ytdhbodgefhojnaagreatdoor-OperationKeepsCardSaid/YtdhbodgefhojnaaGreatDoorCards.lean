/-
  DERIVED. GIVEN WITH THE SEED: THE CARDS: each row of YtdhbodgefhojnaaGreatDoorRows.lean that lists a variable, with what it lists TIED to the program's text (the seventh form; the later family's looks); each row that meets fmt, with fmt's text TOLD by the authors' own Lean function (tested against real Go, not proved from fmt's source: count such statements apart). THE CARD IS WHAT COUNTS. Prove the row's statement (the work); the ties are given (YtdhbodgefhojnaaGreatDoorTie.lean); close each card by the builder's one call (the guide's Derived/Test/ToyasCard.lean, 'card_holds'). Laid BY PROGRAM, IN A SANDBOX (cutbox-door.mjs). By AI agents, Wed Nov 11 2026. No macro, syntax, notation, axiom, sorry.
-/
import Derived.Test.YtdhbodgefhojnaaGreatDoorRows
import GoSem.ClaimSeven
namespace Go.Proofs.YtdhbodgefhojnaaGreatDoor
namespace Rows

/-- THE TIED CARD OF 'bitextlaw37.OperationLimits'. -/
def operationLimitsCard : Claim7 := { stood := { row := operationLimitsRow, standIns := [], harness := (true, "07b12a439b458c177e65be5e027d811e59afd8794d1633bae54543afa586d252"), looks := false }, kinds := [], alts := [], laidByText := true, laidKinds := [.data, .data, .data], laidTests := true, laidLooks := .later }
def OperationLimitsCardSaid : Prop := Claim7.holds Tryz.pinned (.plain (OpenSpec.ofChange operationLimitsSpec)) operationLimitsCard

/-- THE TIED CARD OF 'bitextlaw37.OperationValidates'. -/
def operationValidatesCard : Claim7 := { stood := { row := operationValidatesRow, standIns := [], harness := (true, "07b12a439b458c177e65be5e027d811e59afd8794d1633bae54543afa586d252"), looks := false }, kinds := [], alts := [], laidByText := true, laidKinds := [.data, .data, .data], laidTests := true, laidLooks := .later }
def OperationValidatesCardSaid : Prop := Claim7.holds Tryz.pinned (.plain (OpenSpec.ofChange operationValidatesSpec)) operationValidatesCard

/-- THE TIED CARD OF 'bitextlaw37.OperationWins'. -/
def operationWinsCard : Claim7 := { stood := { row := operationWinsRow, standIns := [], harness := (true, "07b12a439b458c177e65be5e027d811e59afd8794d1633bae54543afa586d252"), looks := false }, kinds := [], alts := [], laidByText := true, laidKinds := [.data, .data, .data], laidTests := true, laidLooks := .later }
def OperationWinsCardSaid : Prop := Claim7.holds Tryz.pinned (.plain (OpenSpec.ofChange operationWinsSpec)) operationWinsCard

/-- THE TIED CARD OF 'bitextlaw37.OperationOrders'. -/
def operationOrdersCard : Claim7 := { stood := { row := operationOrdersRow, standIns := [], harness := (true, "07b12a439b458c177e65be5e027d811e59afd8794d1633bae54543afa586d252"), looks := false }, kinds := [], alts := [], laidByText := true, laidKinds := [.data, .data, .data], laidTests := true, laidLooks := .later }
def OperationOrdersCardSaid : Prop := Claim7.holds Tryz.pinned (.plain (OpenSpec.ofChange operationOrdersSpec)) operationOrdersCard

/-- THE TIED CARD OF 'bitextlaw37.OperationCommutes'. -/
def operationCommutesCard : Claim7 := { stood := { row := operationCommutesRow, standIns := [], harness := (true, "07b12a439b458c177e65be5e027d811e59afd8794d1633bae54543afa586d252"), looks := false }, kinds := [], alts := [], laidByText := true, laidKinds := [.data, .data, .data], laidTests := true, laidLooks := .later }
def OperationCommutesCardSaid : Prop := Claim7.holds Tryz.pinned (.plain (OpenSpec.ofChange operationCommutesSpec)) operationCommutesCard

/-- THE TIED CARD OF 'bitextlaw37.OperationCurrent'. -/
def operationCurrentCard : Claim7 := { stood := { row := operationCurrentRow, standIns := [], harness := (true, "07b12a439b458c177e65be5e027d811e59afd8794d1633bae54543afa586d252"), looks := false }, kinds := [], alts := [], laidByText := true, laidKinds := [.data, .data, .data], laidTests := true, laidLooks := .later }
def OperationCurrentCardSaid : Prop := Claim7.holds Tryz.pinned (.plain (OpenSpec.ofChange operationCurrentSpec)) operationCurrentCard

/-- THE TIED CARD OF 'bitextlaw37.OperationKeeps'. -/
def operationKeepsCard : Claim7 := { stood := { row := operationKeepsRow, standIns := [], harness := (true, "07b12a439b458c177e65be5e027d811e59afd8794d1633bae54543afa586d252"), looks := false }, kinds := [], alts := [], laidByText := true, laidKinds := [.data, .data, .data], laidTests := true, laidLooks := .later }
def OperationKeepsCardSaid : Prop := Claim7.holds Tryz.pinned (.plain (OpenSpec.ofChange operationKeepsSpec)) operationKeepsCard

/-- THE TIED CARD OF 'bitextlaw37.OperationEncodes'. -/
def operationEncodesCard : Claim7 := { stood := { row := operationEncodesRow, standIns := [], harness := (true, "07b12a439b458c177e65be5e027d811e59afd8794d1633bae54543afa586d252"), looks := false }, kinds := [], alts := [], laidByText := true, laidKinds := [.data, .data, .data], laidTests := true, laidLooks := .later }
def OperationEncodesCardSaid : Prop := Claim7.holds Tryz.pinned (.plain (OpenSpec.ofChange operationEncodesSpec)) operationEncodesCard

/-- THE TIED CARD OF 'bitextlaw37.OperationDecodes'. -/
def operationDecodesCard : Claim7 := { stood := { row := operationDecodesRow, standIns := [], harness := (true, "07b12a439b458c177e65be5e027d811e59afd8794d1633bae54543afa586d252"), looks := false }, kinds := [], alts := [], laidByText := true, laidKinds := [.data, .data, .data], laidTests := true, laidLooks := .later }
def OperationDecodesCardSaid : Prop := Claim7.holds Tryz.pinned (.plain (OpenSpec.ofChange operationDecodesSpec)) operationDecodesCard

/-- THE SECOND FORM's CARD OF 'bitextlaw37.OperationLimits'. -/
def operationLimitsUptoCard : Claim7 := { stood := { row := operationLimitsUptoRow, standIns := [], harness := (true, "07b12a439b458c177e65be5e027d811e59afd8794d1633bae54543afa586d252"), looks := false }, kinds := [], alts := [], laidByText := true, laidKinds := [.data, .data, .data], laidTests := true, laidLooks := .later }
def OperationLimitsUptoCardSaid : Prop := Claim7.holds Tryz.pinned (.plain (OpenSpec.upto operationLimitsSpec)) operationLimitsUptoCard

/-- THE SECOND FORM's CARD OF 'bitextlaw37.OperationValidates'. -/
def operationValidatesUptoCard : Claim7 := { stood := { row := operationValidatesUptoRow, standIns := [], harness := (true, "07b12a439b458c177e65be5e027d811e59afd8794d1633bae54543afa586d252"), looks := false }, kinds := [], alts := [], laidByText := true, laidKinds := [.data, .data, .data], laidTests := true, laidLooks := .later }
def OperationValidatesUptoCardSaid : Prop := Claim7.holds Tryz.pinned (.plain (OpenSpec.upto operationValidatesSpec)) operationValidatesUptoCard

/-- THE SECOND FORM's CARD OF 'bitextlaw37.OperationWins'. -/
def operationWinsUptoCard : Claim7 := { stood := { row := operationWinsUptoRow, standIns := [], harness := (true, "07b12a439b458c177e65be5e027d811e59afd8794d1633bae54543afa586d252"), looks := false }, kinds := [], alts := [], laidByText := true, laidKinds := [.data, .data, .data], laidTests := true, laidLooks := .later }
def OperationWinsUptoCardSaid : Prop := Claim7.holds Tryz.pinned (.plain (OpenSpec.upto operationWinsSpec)) operationWinsUptoCard

/-- THE SECOND FORM's CARD OF 'bitextlaw37.OperationOrders'. -/
def operationOrdersUptoCard : Claim7 := { stood := { row := operationOrdersUptoRow, standIns := [], harness := (true, "07b12a439b458c177e65be5e027d811e59afd8794d1633bae54543afa586d252"), looks := false }, kinds := [], alts := [], laidByText := true, laidKinds := [.data, .data, .data], laidTests := true, laidLooks := .later }
def OperationOrdersUptoCardSaid : Prop := Claim7.holds Tryz.pinned (.plain (OpenSpec.upto operationOrdersSpec)) operationOrdersUptoCard

/-- THE SECOND FORM's CARD OF 'bitextlaw37.OperationCommutes'. -/
def operationCommutesUptoCard : Claim7 := { stood := { row := operationCommutesUptoRow, standIns := [], harness := (true, "07b12a439b458c177e65be5e027d811e59afd8794d1633bae54543afa586d252"), looks := false }, kinds := [], alts := [], laidByText := true, laidKinds := [.data, .data, .data], laidTests := true, laidLooks := .later }
def OperationCommutesUptoCardSaid : Prop := Claim7.holds Tryz.pinned (.plain (OpenSpec.upto operationCommutesSpec)) operationCommutesUptoCard

/-- THE SECOND FORM's CARD OF 'bitextlaw37.OperationCurrent'. -/
def operationCurrentUptoCard : Claim7 := { stood := { row := operationCurrentUptoRow, standIns := [], harness := (true, "07b12a439b458c177e65be5e027d811e59afd8794d1633bae54543afa586d252"), looks := false }, kinds := [], alts := [], laidByText := true, laidKinds := [.data, .data, .data], laidTests := true, laidLooks := .later }
def OperationCurrentUptoCardSaid : Prop := Claim7.holds Tryz.pinned (.plain (OpenSpec.upto operationCurrentSpec)) operationCurrentUptoCard

/-- THE SECOND FORM's CARD OF 'bitextlaw37.OperationKeeps'. -/
def operationKeepsUptoCard : Claim7 := { stood := { row := operationKeepsUptoRow, standIns := [], harness := (true, "07b12a439b458c177e65be5e027d811e59afd8794d1633bae54543afa586d252"), looks := false }, kinds := [], alts := [], laidByText := true, laidKinds := [.data, .data, .data], laidTests := true, laidLooks := .later }
def OperationKeepsUptoCardSaid : Prop := Claim7.holds Tryz.pinned (.plain (OpenSpec.upto operationKeepsSpec)) operationKeepsUptoCard

/-- THE SECOND FORM's CARD OF 'bitextlaw37.OperationEncodes'. -/
def operationEncodesUptoCard : Claim7 := { stood := { row := operationEncodesUptoRow, standIns := [], harness := (true, "07b12a439b458c177e65be5e027d811e59afd8794d1633bae54543afa586d252"), looks := false }, kinds := [], alts := [], laidByText := true, laidKinds := [.data, .data, .data], laidTests := true, laidLooks := .later }
def OperationEncodesUptoCardSaid : Prop := Claim7.holds Tryz.pinned (.plain (OpenSpec.upto operationEncodesSpec)) operationEncodesUptoCard

/-- THE SECOND FORM's CARD OF 'bitextlaw37.OperationDecodes'. -/
def operationDecodesUptoCard : Claim7 := { stood := { row := operationDecodesUptoRow, standIns := [], harness := (true, "07b12a439b458c177e65be5e027d811e59afd8794d1633bae54543afa586d252"), looks := false }, kinds := [], alts := [], laidByText := true, laidKinds := [.data, .data, .data], laidTests := true, laidLooks := .later }
def OperationDecodesUptoCardSaid : Prop := Claim7.holds Tryz.pinned (.plain (OpenSpec.upto operationDecodesSpec)) operationDecodesUptoCard
end Rows
end Go.Proofs.YtdhbodgefhojnaaGreatDoor
