/-
  DERIVED. GIVEN WITH THE SEED: THE CARDS: each row of YtbfoheefppnnpaaGreatDoorRows.lean that lists a variable, with what it lists TIED to the program's text (the seventh form; the later family's looks); each row that meets fmt, with fmt's text TOLD by the authors' own Lean function (tested against real Go, not proved from fmt's source: count such statements apart). THE CARD IS WHAT COUNTS. Prove the row's statement (the work); the ties are given (YtbfoheefppnnpaaGreatDoorTie.lean); close each card by the builder's one call (the guide's Derived/Test/ToyasCard.lean, 'card_holds'). Laid BY PROGRAM, IN A SANDBOX (cutbox-door.mjs). By AI agents, Wed Nov 11 2026. No macro, syntax, notation, axiom, sorry.
-/
import Derived.Test.YtbfoheefppnnpaaGreatDoorRows
import GoSem.ClaimSeven
namespace Go.Proofs.YtbfoheefppnnpaaGreatDoor
namespace Rows

/-- THE TIED CARD OF 'bitextlaw39.ReplicaCommutes'. -/
def replicaCommutesCard : Claim7 := { stood := { row := replicaCommutesRow, standIns := [], harness := (true, "0ac76dd3da34f53c535a0ec9b8c85ef905db53337ea24727d1ca3612536bc166"), looks := false }, kinds := [], alts := [], laidByText := true, laidKinds := [.data, .data, .data], laidTests := true, laidLooks := .later }
def ReplicaCommutesCardSaid : Prop := Claim7.holds Tryz.pinned (.plain (OpenSpec.ofChange replicaCommutesSpec)) replicaCommutesCard

/-- THE SECOND FORM's CARD OF 'bitextlaw39.ReplicaCommutes'. -/
def replicaCommutesUptoCard : Claim7 := { stood := { row := replicaCommutesUptoRow, standIns := [], harness := (true, "0ac76dd3da34f53c535a0ec9b8c85ef905db53337ea24727d1ca3612536bc166"), looks := false }, kinds := [], alts := [], laidByText := true, laidKinds := [.data, .data, .data], laidTests := true, laidLooks := .later }
def ReplicaCommutesUptoCardSaid : Prop := Claim7.holds Tryz.pinned (.plain (OpenSpec.upto replicaCommutesSpec)) replicaCommutesUptoCard
end Rows
end Go.Proofs.YtbfoheefppnnpaaGreatDoor
