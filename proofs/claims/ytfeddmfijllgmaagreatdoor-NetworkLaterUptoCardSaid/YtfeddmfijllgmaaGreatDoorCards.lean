/-
  DERIVED. GIVEN WITH THE SEED: THE CARDS: each row of YtfeddmfijllgmaaGreatDoorRows.lean that lists a variable, with what it lists TIED to the program's text (the seventh form; the later family's looks); each row that meets fmt, with fmt's text TOLD by the authors' own Lean function (tested against real Go, not proved from fmt's source: count such statements apart). THE CARD IS WHAT COUNTS. Prove the row's statement (the work); the ties are given (YtfeddmfijllgmaaGreatDoorTie.lean); close each card by the builder's one call (the guide's Derived/Test/ToyasCard.lean, 'card_holds'). Laid BY PROGRAM, IN A SANDBOX (cutbox-door.mjs). By AI agents, Wed Nov 11 2026. No macro, syntax, notation, axiom, sorry.
-/
import Derived.Test.YtfeddmfijllgmaaGreatDoorRows
import GoSem.ClaimSeven
namespace Go.Proofs.YtfeddmfijllgmaaGreatDoor
namespace Rows

/-- THE TIED CARD OF 'bitextlaw40.NetworkPlays'. -/
def networkPlaysCard : Claim7 := { stood := { row := networkPlaysRow, standIns := [], harness := (true, "8eb927940c15f12c75886c27776c998f98fc6def919dcbdfaf7cd123e0a5f6e5"), looks := false }, kinds := [], alts := [], laidByText := true, laidKinds := [.data, .data, .data], laidTests := true, laidLooks := .later }
def NetworkPlaysCardSaid : Prop := Claim7.holds Tryz.pinned (.plain (OpenSpec.ofChange networkPlaysSpec)) networkPlaysCard

/-- THE TIED CARD OF 'bitextlaw40.NetworkErrors'. -/
def networkErrorsCard : Claim7 := { stood := { row := networkErrorsRow, standIns := [], harness := (true, "8eb927940c15f12c75886c27776c998f98fc6def919dcbdfaf7cd123e0a5f6e5"), looks := false }, kinds := [], alts := [], laidByText := true, laidKinds := [.data, .data, .data], laidTests := true, laidLooks := .later }
def NetworkErrorsCardSaid : Prop := Claim7.holds Tryz.pinned (.plain (OpenSpec.ofChange networkErrorsSpec)) networkErrorsCard

/-- THE TIED CARD OF 'bitextlaw40.NetworkSettles'. -/
def networkSettlesCard : Claim7 := { stood := { row := networkSettlesRow, standIns := [], harness := (true, "8eb927940c15f12c75886c27776c998f98fc6def919dcbdfaf7cd123e0a5f6e5"), looks := false }, kinds := [], alts := [], laidByText := true, laidKinds := [.data, .data, .data], laidTests := true, laidLooks := .later }
def NetworkSettlesCardSaid : Prop := Claim7.holds Tryz.pinned (.plain (OpenSpec.ofChange networkSettlesSpec)) networkSettlesCard

/-- THE TIED CARD OF 'bitextlaw40.NetworkConverges'. -/
def networkConvergesCard : Claim7 := { stood := { row := networkConvergesRow, standIns := [], harness := (true, "8eb927940c15f12c75886c27776c998f98fc6def919dcbdfaf7cd123e0a5f6e5"), looks := false }, kinds := [], alts := [], laidByText := true, laidKinds := [.data, .data, .data], laidTests := true, laidLooks := .later }
def NetworkConvergesCardSaid : Prop := Claim7.holds Tryz.pinned (.plain (OpenSpec.ofChange networkConvergesSpec)) networkConvergesCard

/-- THE TIED CARD OF 'bitextlaw40.NetworkLater'. -/
def networkLaterCard : Claim7 := { stood := { row := networkLaterRow, standIns := [], harness := (true, "8eb927940c15f12c75886c27776c998f98fc6def919dcbdfaf7cd123e0a5f6e5"), looks := false }, kinds := [], alts := [], laidByText := true, laidKinds := [.data, .data, .data], laidTests := true, laidLooks := .later }
def NetworkLaterCardSaid : Prop := Claim7.holds Tryz.pinned (.plain (OpenSpec.ofChange networkLaterSpec)) networkLaterCard

/-- THE TIED CARD OF 'bitextlaw40.NetworkTwice'. -/
def networkTwiceCard : Claim7 := { stood := { row := networkTwiceRow, standIns := [], harness := (true, "8eb927940c15f12c75886c27776c998f98fc6def919dcbdfaf7cd123e0a5f6e5"), looks := false }, kinds := [], alts := [], laidByText := true, laidKinds := [.data, .data, .data], laidTests := true, laidLooks := .later }
def NetworkTwiceCardSaid : Prop := Claim7.holds Tryz.pinned (.plain (OpenSpec.ofChange networkTwiceSpec)) networkTwiceCard

/-- THE SECOND FORM's CARD OF 'bitextlaw40.NetworkPlays'. -/
def networkPlaysUptoCard : Claim7 := { stood := { row := networkPlaysUptoRow, standIns := [], harness := (true, "8eb927940c15f12c75886c27776c998f98fc6def919dcbdfaf7cd123e0a5f6e5"), looks := false }, kinds := [], alts := [], laidByText := true, laidKinds := [.data, .data, .data], laidTests := true, laidLooks := .later }
def NetworkPlaysUptoCardSaid : Prop := Claim7.holds Tryz.pinned (.plain (OpenSpec.upto networkPlaysSpec)) networkPlaysUptoCard

/-- THE SECOND FORM's CARD OF 'bitextlaw40.NetworkErrors'. -/
def networkErrorsUptoCard : Claim7 := { stood := { row := networkErrorsUptoRow, standIns := [], harness := (true, "8eb927940c15f12c75886c27776c998f98fc6def919dcbdfaf7cd123e0a5f6e5"), looks := false }, kinds := [], alts := [], laidByText := true, laidKinds := [.data, .data, .data], laidTests := true, laidLooks := .later }
def NetworkErrorsUptoCardSaid : Prop := Claim7.holds Tryz.pinned (.plain (OpenSpec.upto networkErrorsSpec)) networkErrorsUptoCard

/-- THE SECOND FORM's CARD OF 'bitextlaw40.NetworkSettles'. -/
def networkSettlesUptoCard : Claim7 := { stood := { row := networkSettlesUptoRow, standIns := [], harness := (true, "8eb927940c15f12c75886c27776c998f98fc6def919dcbdfaf7cd123e0a5f6e5"), looks := false }, kinds := [], alts := [], laidByText := true, laidKinds := [.data, .data, .data], laidTests := true, laidLooks := .later }
def NetworkSettlesUptoCardSaid : Prop := Claim7.holds Tryz.pinned (.plain (OpenSpec.upto networkSettlesSpec)) networkSettlesUptoCard

/-- THE SECOND FORM's CARD OF 'bitextlaw40.NetworkConverges'. -/
def networkConvergesUptoCard : Claim7 := { stood := { row := networkConvergesUptoRow, standIns := [], harness := (true, "8eb927940c15f12c75886c27776c998f98fc6def919dcbdfaf7cd123e0a5f6e5"), looks := false }, kinds := [], alts := [], laidByText := true, laidKinds := [.data, .data, .data], laidTests := true, laidLooks := .later }
def NetworkConvergesUptoCardSaid : Prop := Claim7.holds Tryz.pinned (.plain (OpenSpec.upto networkConvergesSpec)) networkConvergesUptoCard

/-- THE SECOND FORM's CARD OF 'bitextlaw40.NetworkLater'. -/
def networkLaterUptoCard : Claim7 := { stood := { row := networkLaterUptoRow, standIns := [], harness := (true, "8eb927940c15f12c75886c27776c998f98fc6def919dcbdfaf7cd123e0a5f6e5"), looks := false }, kinds := [], alts := [], laidByText := true, laidKinds := [.data, .data, .data], laidTests := true, laidLooks := .later }
def NetworkLaterUptoCardSaid : Prop := Claim7.holds Tryz.pinned (.plain (OpenSpec.upto networkLaterSpec)) networkLaterUptoCard

/-- THE SECOND FORM's CARD OF 'bitextlaw40.NetworkTwice'. -/
def networkTwiceUptoCard : Claim7 := { stood := { row := networkTwiceUptoRow, standIns := [], harness := (true, "8eb927940c15f12c75886c27776c998f98fc6def919dcbdfaf7cd123e0a5f6e5"), looks := false }, kinds := [], alts := [], laidByText := true, laidKinds := [.data, .data, .data], laidTests := true, laidLooks := .later }
def NetworkTwiceUptoCardSaid : Prop := Claim7.holds Tryz.pinned (.plain (OpenSpec.upto networkTwiceSpec)) networkTwiceUptoCard
end Rows
end Go.Proofs.YtfeddmfijllgmaaGreatDoor
