/-
  DERIVED. GIVEN WITH THE SEED: THE CARDS: each row of YtgihcpilgfbggaaGreatDoorRows.lean that lists a variable, with what it lists TIED to the program's text (the seventh form; the later family's looks); each row that meets fmt, with fmt's text TOLD by the authors' own Lean function (tested against real Go, not proved from fmt's source: count such statements apart). THE CARD IS WHAT COUNTS. Prove the row's statement (the work); the ties are given (YtgihcpilgfbggaaGreatDoorTie.lean); close each card by the builder's one call (the guide's Derived/Test/ToyasCard.lean, 'card_holds'). Laid BY PROGRAM, IN A SANDBOX (cutbox-door.mjs). By AI agents, Wed Nov 11 2026. No macro, syntax, notation, axiom, sorry.
-/
import Derived.Test.YtgihcpilgfbggaaGreatDoorRows
import GoSem.ClaimSeven
namespace Go.Proofs.YtgihcpilgfbggaaGreatDoor
namespace Rows

/-- THE TIED CARD OF 'bitextlaw40.NetworkLimits'. -/
def networkLimitsCard : Claim7 := { stood := { row := networkLimitsRow, standIns := [], harness := (true, "15b8e0afd2a3936dbe0280e52081099f8e110d56dc6168d3be24bb7d969aa71b"), looks := false }, kinds := [], alts := [], laidByText := true, laidKinds := [.data, .data, .data], laidTests := true, laidLooks := .later }
def NetworkLimitsCardSaid : Prop := Claim7.holds Tryz.pinned (.plain (OpenSpec.ofChange networkLimitsSpec)) networkLimitsCard

/-- THE SECOND FORM's CARD OF 'bitextlaw40.NetworkLimits'. -/
def networkLimitsUptoCard : Claim7 := { stood := { row := networkLimitsUptoRow, standIns := [], harness := (true, "15b8e0afd2a3936dbe0280e52081099f8e110d56dc6168d3be24bb7d969aa71b"), looks := false }, kinds := [], alts := [], laidByText := true, laidKinds := [.data, .data, .data], laidTests := true, laidLooks := .later }
def NetworkLimitsUptoCardSaid : Prop := Claim7.holds Tryz.pinned (.plain (OpenSpec.upto networkLimitsSpec)) networkLimitsUptoCard
end Rows
end Go.Proofs.YtgihcpilgfbggaaGreatDoor
