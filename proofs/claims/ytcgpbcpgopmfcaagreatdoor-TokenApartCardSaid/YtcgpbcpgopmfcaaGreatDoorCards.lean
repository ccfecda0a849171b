/-
  DERIVED. GIVEN WITH THE SEED: THE CARDS: each row of YtcgpbcpgopmfcaaGreatDoorRows.lean that lists a variable, with what it lists TIED to the program's text (the seventh form; the later family's looks); each row that meets fmt, with fmt's text TOLD by the authors' own Lean function (tested against real Go, not proved from fmt's source: count such statements apart). THE CARD IS WHAT COUNTS. Prove the row's statement (the work); the ties are given (YtcgpbcpgopmfcaaGreatDoorTie.lean); close each card by the builder's one call (the guide's Derived/Test/ToyasCard.lean, 'card_holds'). Laid BY PROGRAM, IN A SANDBOX (cutbox-door.mjs). By AI agents, Wed Nov 11 2026. No macro, syntax, notation, axiom, sorry.
-/
import Derived.Test.YtcgpbcpgopmfcaaGreatDoorRows
import GoSem.ClaimSeven
namespace Go.Proofs.YtcgpbcpgopmfcaaGreatDoor
namespace Rows

/-- THE TIED CARD OF 'cambiumlaw24.TokenTurned'. -/
def tokenTurnedCard : Claim7 := { stood := { row := tokenTurnedRow, standIns := [], harness := (true, "8cbc8955b0e0398fa5f4b3493c2099af2d9c09b97e5c8a07d13eae3b58fd697e"), looks := true }, kinds := [], alts := [], laidByText := true, laidKinds := [.data, .data, .data, .data, .pinned], laidTests := true, laidLooks := .later }
def TokenTurnedCardSaid : Prop := Claim7.holds Tryz.pinned (.plain (OpenSpec.ofChange tokenTurnedSpec)) tokenTurnedCard

/-- THE TIED CARD OF 'cambiumlaw24.TokenApart'. -/
def tokenApartCard : Claim7 := { stood := { row := tokenApartRow, standIns := [], harness := (true, "8cbc8955b0e0398fa5f4b3493c2099af2d9c09b97e5c8a07d13eae3b58fd697e"), looks := true }, kinds := [], alts := [], laidByText := true, laidKinds := [.data, .data, .data, .data, .pinned], laidTests := true, laidLooks := .later }
def TokenApartCardSaid : Prop := Claim7.holds Tryz.pinned (.plain (OpenSpec.ofChange tokenApartSpec)) tokenApartCard

/-- THE SECOND FORM's CARD OF 'cambiumlaw24.TokenTurned'. -/
def tokenTurnedUptoCard : Claim7 := { stood := { row := tokenTurnedUptoRow, standIns := [], harness := (true, "8cbc8955b0e0398fa5f4b3493c2099af2d9c09b97e5c8a07d13eae3b58fd697e"), looks := true }, kinds := [], alts := [], laidByText := true, laidKinds := [.data, .data, .data, .data, .pinned], laidTests := true, laidLooks := .later }
def TokenTurnedUptoCardSaid : Prop := Claim7.holds Tryz.pinned (.plain (OpenSpec.upto tokenTurnedSpec)) tokenTurnedUptoCard

/-- THE SECOND FORM's CARD OF 'cambiumlaw24.TokenApart'. -/
def tokenApartUptoCard : Claim7 := { stood := { row := tokenApartUptoRow, standIns := [], harness := (true, "8cbc8955b0e0398fa5f4b3493c2099af2d9c09b97e5c8a07d13eae3b58fd697e"), looks := true }, kinds := [], alts := [], laidByText := true, laidKinds := [.data, .data, .data, .data, .pinned], laidTests := true, laidLooks := .later }
def TokenApartUptoCardSaid : Prop := Claim7.holds Tryz.pinned (.plain (OpenSpec.upto tokenApartSpec)) tokenApartUptoCard
end Rows
end Go.Proofs.YtcgpbcpgopmfcaaGreatDoor
