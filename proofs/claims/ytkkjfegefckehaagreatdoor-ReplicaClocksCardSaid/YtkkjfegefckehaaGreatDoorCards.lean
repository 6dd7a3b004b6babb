/-
  DERIVED. GIVEN WITH THE SEED: THE CARDS: each row of YtkkjfegefckehaaGreatDoorRows.lean that lists a variable, with what it lists TIED to the program's text (the seventh form; the later family's looks); each row that meets fmt, with fmt's text TOLD by the authors' own Lean function (tested against real Go, not proved from fmt's source: count such statements apart). THE CARD IS WHAT COUNTS. Prove the row's statement (the work); the ties are given (YtkkjfegefckehaaGreatDoorTie.lean); close each card by the builder's one call (the guide's Derived/Test/ToyasCard.lean, 'card_holds'). Laid BY PROGRAM, IN A SANDBOX (cutbox-door.mjs). By AI agents, Wed Nov 11 2026. No macro, syntax, notation, axiom, sorry.
-/
import Derived.Test.YtkkjfegefckehaaGreatDoorRows
import GoSem.ClaimSeven
namespace Go.Proofs.YtkkjfegefckehaaGreatDoor
namespace Rows

/-- THE TIED CARD OF 'bitextlaw39.ReplicaPlays'. -/
def replicaPlaysCard : Claim7 := { stood := { row := replicaPlaysRow, standIns := [], harness := (true, "565de5dcc45b3e4295c6ecb0081966901b1e36ee43fc8e8b9f3e16c5016a37e4"), looks := false }, kinds := [], alts := [], laidByText := true, laidKinds := [.data, .data, .data], laidTests := true, laidLooks := .later }
def ReplicaPlaysCardSaid : Prop := Claim7.holds Tryz.pinned (.plain (OpenSpec.ofChange replicaPlaysSpec)) replicaPlaysCard

/-- THE TIED CARD OF 'bitextlaw39.ReplicaNumbers'. -/
def replicaNumbersCard : Claim7 := { stood := { row := replicaNumbersRow, standIns := [], harness := (true, "565de5dcc45b3e4295c6ecb0081966901b1e36ee43fc8e8b9f3e16c5016a37e4"), looks := false }, kinds := [], alts := [], laidByText := true, laidKinds := [.data, .data, .data], laidTests := true, laidLooks := .later }
def ReplicaNumbersCardSaid : Prop := Claim7.holds Tryz.pinned (.plain (OpenSpec.ofChange replicaNumbersSpec)) replicaNumbersCard

/-- THE TIED CARD OF 'bitextlaw39.ReplicaSurvives'. -/
def replicaSurvivesCard : Claim7 := { stood := { row := replicaSurvivesRow, standIns := [], harness := (true, "565de5dcc45b3e4295c6ecb0081966901b1e36ee43fc8e8b9f3e16c5016a37e4"), looks := false }, kinds := [], alts := [], laidByText := true, laidKinds := [.data, .data, .data], laidTests := true, laidLooks := .later }
def ReplicaSurvivesCardSaid : Prop := Claim7.holds Tryz.pinned (.plain (OpenSpec.ofChange replicaSurvivesSpec)) replicaSurvivesCard

/-- THE TIED CARD OF 'bitextlaw39.ReplicaClocks'. -/
def replicaClocksCard : Claim7 := { stood := { row := replicaClocksRow, standIns := [], harness := (true, "565de5dcc45b3e4295c6ecb0081966901b1e36ee43fc8e8b9f3e16c5016a37e4"), looks := false }, kinds := [], alts := [], laidByText := true, laidKinds := [.data, .data, .data], laidTests := true, laidLooks := .later }
def ReplicaClocksCardSaid : Prop := Claim7.holds Tryz.pinned (.plain (OpenSpec.ofChange replicaClocksSpec)) replicaClocksCard

/-- THE TIED CARD OF 'bitextlaw39.ReplicaReads'. -/
def replicaReadsCard : Claim7 := { stood := { row := replicaReadsRow, standIns := [], harness := (true, "565de5dcc45b3e4295c6ecb0081966901b1e36ee43fc8e8b9f3e16c5016a37e4"), looks := false }, kinds := [], alts := [], laidByText := true, laidKinds := [.data, .data, .data], laidTests := true, laidLooks := .later }
def ReplicaReadsCardSaid : Prop := Claim7.holds Tryz.pinned (.plain (OpenSpec.ofChange replicaReadsSpec)) replicaReadsCard

/-- THE TIED CARD OF 'bitextlaw39.ReplicaCatches'. -/
def replicaCatchesCard : Claim7 := { stood := { row := replicaCatchesRow, standIns := [], harness := (true, "565de5dcc45b3e4295c6ecb0081966901b1e36ee43fc8e8b9f3e16c5016a37e4"), looks := false }, kinds := [], alts := [], laidByText := true, laidKinds := [.data, .data, .data], laidTests := true, laidLooks := .later }
def ReplicaCatchesCardSaid : Prop := Claim7.holds Tryz.pinned (.plain (OpenSpec.ofChange replicaCatchesSpec)) replicaCatchesCard

/-- THE SECOND FORM's CARD OF 'bitextlaw39.ReplicaPlays'. -/
def replicaPlaysUptoCard : Claim7 := { stood := { row := replicaPlaysUptoRow, standIns := [], harness := (true, "565de5dcc45b3e4295c6ecb0081966901b1e36ee43fc8e8b9f3e16c5016a37e4"), looks := false }, kinds := [], alts := [], laidByText := true, laidKinds := [.data, .data, .data], laidTests := true, laidLooks := .later }
def ReplicaPlaysUptoCardSaid : Prop := Claim7.holds Tryz.pinned (.plain (OpenSpec.upto replicaPlaysSpec)) replicaPlaysUptoCard

/-- THE SECOND FORM's CARD OF 'bitextlaw39.ReplicaNumbers'. -/
def replicaNumbersUptoCard : Claim7 := { stood := { row := replicaNumbersUptoRow, standIns := [], harness := (true, "565de5dcc45b3e4295c6ecb0081966901b1e36ee43fc8e8b9f3e16c5016a37e4"), looks := false }, kinds := [], alts := [], laidByText := true, laidKinds := [.data, .data, .data], laidTests := true, laidLooks := .later }
def ReplicaNumbersUptoCardSaid : Prop := Claim7.holds Tryz.pinned (.plain (OpenSpec.upto replicaNumbersSpec)) replicaNumbersUptoCard

/-- THE SECOND FORM's CARD OF 'bitextlaw39.ReplicaSurvives'. -/
def replicaSurvivesUptoCard : Claim7 := { stood := { row := replicaSurvivesUptoRow, standIns := [], harness := (true, "565de5dcc45b3e4295c6ecb0081966901b1e36ee43fc8e8b9f3e16c5016a37e4"), looks := false }, kinds := [], alts := [], laidByText := true, laidKinds := [.data, .data, .data], laidTests := true, laidLooks := .later }
def ReplicaSurvivesUptoCardSaid : Prop := Claim7.holds Tryz.pinned (.plain (OpenSpec.upto replicaSurvivesSpec)) replicaSurvivesUptoCard

/-- THE SECOND FORM's CARD OF 'bitextlaw39.ReplicaClocks'. -/
def replicaClocksUptoCard : Claim7 := { stood := { row := replicaClocksUptoRow, standIns := [], harness := (true, "565de5dcc45b3e4295c6ecb0081966901b1e36ee43fc8e8b9f3e16c5016a37e4"), looks := false }, kinds := [], alts := [], laidByText := true, laidKinds := [.data, .data, .data], laidTests := true, laidLooks := .later }
def ReplicaClocksUptoCardSaid : Prop := Claim7.holds Tryz.pinned (.plain (OpenSpec.upto replicaClocksSpec)) replicaClocksUptoCard

/-- THE SECOND FORM's CARD OF 'bitextlaw39.ReplicaReads'. -/
def replicaReadsUptoCard : Claim7 := { stood := { row := replicaReadsUptoRow, standIns := [], harness := (true, "565de5dcc45b3e4295c6ecb0081966901b1e36ee43fc8e8b9f3e16c5016a37e4"), looks := false }, kinds := [], alts := [], laidByText := true, laidKinds := [.data, .data, .data], laidTests := true, laidLooks := .later }
def ReplicaReadsUptoCardSaid : Prop := Claim7.holds Tryz.pinned (.plain (OpenSpec.upto replicaReadsSpec)) replicaReadsUptoCard

/-- THE SECOND FORM's CARD OF 'bitextlaw39.ReplicaCatches'. -/
def replicaCatchesUptoCard : Claim7 := { stood := { row := replicaCatchesUptoRow, standIns := [], harness := (true, "565de5dcc45b3e4295c6ecb0081966901b1e36ee43fc8e8b9f3e16c5016a37e4"), looks := false }, kinds := [], alts := [], laidByText := true, laidKinds := [.data, .data, .data], laidTests := true, laidLooks := .later }
def ReplicaCatchesUptoCardSaid : Prop := Claim7.holds Tryz.pinned (.plain (OpenSpec.upto replicaCatchesSpec)) replicaCatchesUptoCard
end Rows
end Go.Proofs.YtkkjfegefckehaaGreatDoor
