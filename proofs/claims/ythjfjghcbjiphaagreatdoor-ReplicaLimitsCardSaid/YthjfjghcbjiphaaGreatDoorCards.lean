/-
  DERIVED. GIVEN WITH THE SEED: THE CARDS: each row of YthjfjghcbjiphaaGreatDoorRows.lean that lists a variable, with what it lists TIED to the program's text (the seventh form; the later family's looks); each row that meets fmt, with fmt's text TOLD by the authors' own Lean function (tested against real Go, not proved from fmt's source: count such statements apart). THE CARD IS WHAT COUNTS. Prove the row's statement (the work); the ties are given (YthjfjghcbjiphaaGreatDoorTie.lean); close each card by the builder's one call (the guide's Derived/Test/ToyasCard.lean, 'card_holds'). Laid BY PROGRAM, IN A SANDBOX (cutbox-door.mjs). By AI agents, Wed Nov 11 2026. No macro, syntax, notation, axiom, sorry.
-/
import Derived.Test.YthjfjghcbjiphaaGreatDoorRows
import GoSem.ClaimSeven
namespace Go.Proofs.YthjfjghcbjiphaaGreatDoor
namespace Rows

/-- THE TIED CARD OF 'bitextlaw39.ReplicaLimits'. -/
def replicaLimitsCard : Claim7 := { stood := { row := replicaLimitsRow, standIns := [], harness := (true, "40247ff44d82128ed43a7c9572550f416ef7bb061c0cdbb2ab38b4cabc2c863e"), looks := false }, kinds := [], alts := [], laidByText := true, laidKinds := [.data, .data, .data], laidTests := true, laidLooks := .later }
def ReplicaLimitsCardSaid : Prop := Claim7.holds Tryz.pinned (.plain (OpenSpec.ofChange replicaLimitsSpec)) replicaLimitsCard

/-- THE SECOND FORM's CARD OF 'bitextlaw39.ReplicaLimits'. -/
def replicaLimitsUptoCard : Claim7 := { stood := { row := replicaLimitsUptoRow, standIns := [], harness := (true, "40247ff44d82128ed43a7c9572550f416ef7bb061c0cdbb2ab38b4cabc2c863e"), looks := false }, kinds := [], alts := [], laidByText := true, laidKinds := [.data, .data, .data], laidTests := true, laidLooks := .later }
def ReplicaLimitsUptoCardSaid : Prop := Claim7.holds Tryz.pinned (.plain (OpenSpec.upto replicaLimitsSpec)) replicaLimitsUptoCard
end Rows
end Go.Proofs.YthjfjghcbjiphaaGreatDoor
