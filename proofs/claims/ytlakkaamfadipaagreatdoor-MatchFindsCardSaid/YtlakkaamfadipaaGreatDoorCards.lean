/-
  DERIVED. GIVEN WITH THE SEED: THE CARDS: each row of YtlakkaamfadipaaGreatDoorRows.lean that lists a variable, with what it lists TIED to the program's text (the seventh form; the later family's looks); each row that meets fmt, with fmt's text TOLD by the authors' own Lean function (tested against real Go, not proved from fmt's source: count such statements apart). THE CARD IS WHAT COUNTS. Prove the row's statement (the work); the ties are given (YtlakkaamfadipaaGreatDoorTie.lean); close each card by the builder's one call (the guide's Derived/Test/ToyasCard.lean, 'card_holds'). Laid BY PROGRAM, IN A SANDBOX (cutbox-door.mjs). By AI agents, Wed Nov 11 2026. No macro, syntax, notation, axiom, sorry.
-/
import Derived.Test.YtlakkaamfadipaaGreatDoorRows
import GoSem.ClaimSeven
namespace Go.Proofs.YtlakkaamfadipaaGreatDoor
namespace Rows

/-- THE TIED CARD OF 'bitextlaw18.MatchValidates'. -/
def matchValidatesCard : Claim7 := { stood := { row := matchValidatesRow, standIns := [], harness := (true, "f26751c01df4635d0e864c5d086eb468acef0009b0feac89e891e5ff5a7deef0"), looks := false }, kinds := [], alts := [], laidByText := true, laidKinds := [.data, .data, .data], laidTests := true, laidLooks := .later }
def MatchValidatesCardSaid : Prop := Claim7.holds Tryz.pinned (.plain (OpenSpec.ofChange matchValidatesSpec)) matchValidatesCard

/-- THE TIED CARD OF 'bitextlaw18.MatchScores'. -/
def matchScoresCard : Claim7 := { stood := { row := matchScoresRow, standIns := [], harness := (true, "f26751c01df4635d0e864c5d086eb468acef0009b0feac89e891e5ff5a7deef0"), looks := false }, kinds := [], alts := [], laidByText := true, laidKinds := [.data, .data, .data], laidTests := true, laidLooks := .later }
def MatchScoresCardSaid : Prop := Claim7.holds Tryz.pinned (.plain (OpenSpec.ofChange matchScoresSpec)) matchScoresCard

/-- THE TIED CARD OF 'bitextlaw18.MatchMisses'. -/
def matchMissesCard : Claim7 := { stood := { row := matchMissesRow, standIns := [], harness := (true, "f26751c01df4635d0e864c5d086eb468acef0009b0feac89e891e5ff5a7deef0"), looks := false }, kinds := [], alts := [], laidByText := true, laidKinds := [.data, .data, .data], laidTests := true, laidLooks := .later }
def MatchMissesCardSaid : Prop := Claim7.holds Tryz.pinned (.plain (OpenSpec.ofChange matchMissesSpec)) matchMissesCard

/-- THE TIED CARD OF 'bitextlaw18.MatchOrder'. -/
def matchOrderCard : Claim7 := { stood := { row := matchOrderRow, standIns := [], harness := (true, "f26751c01df4635d0e864c5d086eb468acef0009b0feac89e891e5ff5a7deef0"), looks := false }, kinds := [], alts := [], laidByText := true, laidKinds := [.data, .data, .data], laidTests := true, laidLooks := .later }
def MatchOrderCardSaid : Prop := Claim7.holds Tryz.pinned (.plain (OpenSpec.ofChange matchOrderSpec)) matchOrderCard

/-- THE TIED CARD OF 'bitextlaw18.MatchLimits'. -/
def matchLimitsCard : Claim7 := { stood := { row := matchLimitsRow, standIns := [], harness := (true, "f26751c01df4635d0e864c5d086eb468acef0009b0feac89e891e5ff5a7deef0"), looks := false }, kinds := [], alts := [], laidByText := true, laidKinds := [.data, .data, .data], laidTests := true, laidLooks := .later }
def MatchLimitsCardSaid : Prop := Claim7.holds Tryz.pinned (.plain (OpenSpec.ofChange matchLimitsSpec)) matchLimitsCard

/-- THE TIED CARD OF 'bitextlaw18.MatchFinds'. -/
def matchFindsCard : Claim7 := { stood := { row := matchFindsRow, standIns := [], harness := (true, "f26751c01df4635d0e864c5d086eb468acef0009b0feac89e891e5ff5a7deef0"), looks := false }, kinds := [], alts := [], laidByText := true, laidKinds := [.data, .data, .data], laidTests := true, laidLooks := .later }
def MatchFindsCardSaid : Prop := Claim7.holds Tryz.pinned (.plain (OpenSpec.ofChange matchFindsSpec)) matchFindsCard

/-- THE TIED CARD OF 'bitextlaw18.MatchAdapts'. -/
def matchAdaptsCard : Claim7 := { stood := { row := matchAdaptsRow, standIns := [], harness := (true, "f26751c01df4635d0e864c5d086eb468acef0009b0feac89e891e5ff5a7deef0"), looks := false }, kinds := [], alts := [], laidByText := true, laidKinds := [.data, .data, .data], laidTests := true, laidLooks := .later }
def MatchAdaptsCardSaid : Prop := Claim7.holds Tryz.pinned (.plain (OpenSpec.ofChange matchAdaptsSpec)) matchAdaptsCard

/-- THE TIED CARD OF 'bitextlaw18.MatchExact'. -/
def matchExactCard : Claim7 := { stood := { row := matchExactRow, standIns := [], harness := (true, "f26751c01df4635d0e864c5d086eb468acef0009b0feac89e891e5ff5a7deef0"), looks := false }, kinds := [], alts := [], laidByText := true, laidKinds := [.data, .data, .data], laidTests := true, laidLooks := .later }
def MatchExactCardSaid : Prop := Claim7.holds Tryz.pinned (.plain (OpenSpec.ofChange matchExactSpec)) matchExactCard

/-- THE SECOND FORM's CARD OF 'bitextlaw18.MatchValidates'. -/
def matchValidatesUptoCard : Claim7 := { stood := { row := matchValidatesUptoRow, standIns := [], harness := (true, "f26751c01df4635d0e864c5d086eb468acef0009b0feac89e891e5ff5a7deef0"), looks := false }, kinds := [], alts := [], laidByText := true, laidKinds := [.data, .data, .data], laidTests := true, laidLooks := .later }
def MatchValidatesUptoCardSaid : Prop := Claim7.holds Tryz.pinned (.plain (OpenSpec.upto matchValidatesSpec)) matchValidatesUptoCard

/-- THE SECOND FORM's CARD OF 'bitextlaw18.MatchScores'. -/
def matchScoresUptoCard : Claim7 := { stood := { row := matchScoresUptoRow, standIns := [], harness := (true, "f26751c01df4635d0e864c5d086eb468acef0009b0feac89e891e5ff5a7deef0"), looks := false }, kinds := [], alts := [], laidByText := true, laidKinds := [.data, .data, .data], laidTests := true, laidLooks := .later }
def MatchScoresUptoCardSaid : Prop := Claim7.holds Tryz.pinned (.plain (OpenSpec.upto matchScoresSpec)) matchScoresUptoCard

/-- THE SECOND FORM's CARD OF 'bitextlaw18.MatchMisses'. -/
def matchMissesUptoCard : Claim7 := { stood := { row := matchMissesUptoRow, standIns := [], harness := (true, "f26751c01df4635d0e864c5d086eb468acef0009b0feac89e891e5ff5a7deef0"), looks := false }, kinds := [], alts := [], laidByText := true, laidKinds := [.data, .data, .data], laidTests := true, laidLooks := .later }
def MatchMissesUptoCardSaid : Prop := Claim7.holds Tryz.pinned (.plain (OpenSpec.upto matchMissesSpec)) matchMissesUptoCard

/-- THE SECOND FORM's CARD OF 'bitextlaw18.MatchOrder'. -/
def matchOrderUptoCard : Claim7 := { stood := { row := matchOrderUptoRow, standIns := [], harness := (true, "f26751c01df4635d0e864c5d086eb468acef0009b0feac89e891e5ff5a7deef0"), looks := false }, kinds := [], alts := [], laidByText := true, laidKinds := [.data, .data, .data], laidTests := true, laidLooks := .later }
def MatchOrderUptoCardSaid : Prop := Claim7.holds Tryz.pinned (.plain (OpenSpec.upto matchOrderSpec)) matchOrderUptoCard

/-- THE SECOND FORM's CARD OF 'bitextlaw18.MatchLimits'. -/
def matchLimitsUptoCard : Claim7 := { stood := { row := matchLimitsUptoRow, standIns := [], harness := (true, "f26751c01df4635d0e864c5d086eb468acef0009b0feac89e891e5ff5a7deef0"), looks := false }, kinds := [], alts := [], laidByText := true, laidKinds := [.data, .data, .data], laidTests := true, laidLooks := .later }
def MatchLimitsUptoCardSaid : Prop := Claim7.holds Tryz.pinned (.plain (OpenSpec.upto matchLimitsSpec)) matchLimitsUptoCard

/-- THE SECOND FORM's CARD OF 'bitextlaw18.MatchFinds'. -/
def matchFindsUptoCard : Claim7 := { stood := { row := matchFindsUptoRow, standIns := [], harness := (true, "f26751c01df4635d0e864c5d086eb468acef0009b0feac89e891e5ff5a7deef0"), looks := false }, kinds := [], alts := [], laidByText := true, laidKinds := [.data, .data, .data], laidTests := true, laidLooks := .later }
def MatchFindsUptoCardSaid : Prop := Claim7.holds Tryz.pinned (.plain (OpenSpec.upto matchFindsSpec)) matchFindsUptoCard

/-- THE SECOND FORM's CARD OF 'bitextlaw18.MatchAdapts'. -/
def matchAdaptsUptoCard : Claim7 := { stood := { row := matchAdaptsUptoRow, standIns := [], harness := (true, "f26751c01df4635d0e864c5d086eb468acef0009b0feac89e891e5ff5a7deef0"), looks := false }, kinds := [], alts := [], laidByText := true, laidKinds := [.data, .data, .data], laidTests := true, laidLooks := .later }
def MatchAdaptsUptoCardSaid : Prop := Claim7.holds Tryz.pinned (.plain (OpenSpec.upto matchAdaptsSpec)) matchAdaptsUptoCard

/-- THE SECOND FORM's CARD OF 'bitextlaw18.MatchExact'. -/
def matchExactUptoCard : Claim7 := { stood := { row := matchExactUptoRow, standIns := [], harness := (true, "f26751c01df4635d0e864c5d086eb468acef0009b0feac89e891e5ff5a7deef0"), looks := false }, kinds := [], alts := [], laidByText := true, laidKinds := [.data, .data, .data], laidTests := true, laidLooks := .later }
def MatchExactUptoCardSaid : Prop := Claim7.holds Tryz.pinned (.plain (OpenSpec.upto matchExactSpec)) matchExactUptoCard
end Rows
end Go.Proofs.YtlakkaamfadipaaGreatDoor
