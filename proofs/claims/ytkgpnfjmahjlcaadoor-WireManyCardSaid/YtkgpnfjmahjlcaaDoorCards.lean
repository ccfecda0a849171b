/-
  DERIVED. GIVEN WITH THE SEED: THE CARDS: each row of YtkgpnfjmahjlcaaDoorRows.lean that lists a variable, with what it lists TIED to the program's text (the seventh form; the later family's looks); each row that meets fmt, with fmt's text TOLD by the authors' own Lean function (tested against real Go, not proved from fmt's source: count such statements apart). THE CARD IS WHAT COUNTS. Prove the row's statement (the work); the ties are given (YtkgpnfjmahjlcaaDoorTie.lean); close each card by the builder's one call (the guide's Derived/Test/ToyasCard.lean, 'card_holds'). Laid BY PROGRAM, IN A SANDBOX (cutbox-door.mjs). By AI agents, Wed Nov 11 2026. No macro, syntax, notation, axiom, sorry.
-/
import Derived.Test.YtkgpnfjmahjlcaaDoorRows
import GoSem.ClaimSeven
namespace Go.Proofs.YtkgpnfjmahjlcaaDoor
namespace Rows

/-- THE TIED CARD OF 'cambiumlaw17.WireSpans'. -/
def wireSpansCard : Claim7 := { stood := { row := wireSpansRow, standIns := [], harness := (true, "2a0d9c1805ed8e1cf243b6b1507eb501a4f0e834b87ef04df337e00b92df1c1b"), looks := false }, kinds := [], alts := [], laidByText := true, laidKinds := [.data, .pinned], laidTests := true, laidLooks := .later }
def WireSpansCardSaid : Prop := Claim7.holds Tryd.pinned (.plain (OpenSpec.ofChange wireSpansSpec)) wireSpansCard

/-- THE TIED CARD OF 'cambiumlaw17.WireReads'. -/
def wireReadsCard : Claim7 := { stood := { row := wireReadsRow, standIns := [], harness := (true, "2a0d9c1805ed8e1cf243b6b1507eb501a4f0e834b87ef04df337e00b92df1c1b"), looks := false }, kinds := [], alts := [], laidByText := true, laidKinds := [.data, .pinned], laidTests := true, laidLooks := .later }
def WireReadsCardSaid : Prop := Claim7.holds Tryd.pinned (.plain (OpenSpec.ofChange wireReadsSpec)) wireReadsCard

/-- THE TIED CARD OF 'cambiumlaw17.WireBatches'. -/
def wireBatchesCard : Claim7 := { stood := { row := wireBatchesRow, standIns := [], harness := (true, "2a0d9c1805ed8e1cf243b6b1507eb501a4f0e834b87ef04df337e00b92df1c1b"), looks := false }, kinds := [], alts := [], laidByText := true, laidKinds := [.data, .pinned], laidTests := true, laidLooks := .later }
def WireBatchesCardSaid : Prop := Claim7.holds Tryd.pinned (.plain (OpenSpec.ofChange wireBatchesSpec)) wireBatchesCard

/-- THE TIED CARD OF 'cambiumlaw17.WireApart'. -/
def wireApartCard : Claim7 := { stood := { row := wireApartRow, standIns := [], harness := (true, "2a0d9c1805ed8e1cf243b6b1507eb501a4f0e834b87ef04df337e00b92df1c1b"), looks := false }, kinds := [], alts := [], laidByText := true, laidKinds := [.data, .pinned], laidTests := true, laidLooks := .later }
def WireApartCardSaid : Prop := Claim7.holds Tryd.pinned (.plain (OpenSpec.ofChange wireApartSpec)) wireApartCard

/-- THE TIED CARD OF 'cambiumlaw17.WireMany'. -/
def wireManyCard : Claim7 := { stood := { row := wireManyRow, standIns := [], harness := (true, "2a0d9c1805ed8e1cf243b6b1507eb501a4f0e834b87ef04df337e00b92df1c1b"), looks := false }, kinds := [], alts := [], laidByText := true, laidKinds := [.data, .pinned], laidTests := true, laidLooks := .later }
def WireManyCardSaid : Prop := Claim7.holds Tryd.pinned (.plain (OpenSpec.ofChange wireManySpec)) wireManyCard

/-- THE SECOND FORM's CARD OF 'cambiumlaw17.WireSpans'. -/
def wireSpansUptoCard : Claim7 := { stood := { row := wireSpansUptoRow, standIns := [], harness := (true, "2a0d9c1805ed8e1cf243b6b1507eb501a4f0e834b87ef04df337e00b92df1c1b"), looks := false }, kinds := [], alts := [], laidByText := true, laidKinds := [.data, .pinned], laidTests := true, laidLooks := .later }
def WireSpansUptoCardSaid : Prop := Claim7.holds Tryd.pinned (.plain (OpenSpec.upto wireSpansSpec)) wireSpansUptoCard

/-- THE SECOND FORM's CARD OF 'cambiumlaw17.WireReads'. -/
def wireReadsUptoCard : Claim7 := { stood := { row := wireReadsUptoRow, standIns := [], harness := (true, "2a0d9c1805ed8e1cf243b6b1507eb501a4f0e834b87ef04df337e00b92df1c1b"), looks := false }, kinds := [], alts := [], laidByText := true, laidKinds := [.data, .pinned], laidTests := true, laidLooks := .later }
def WireReadsUptoCardSaid : Prop := Claim7.holds Tryd.pinned (.plain (OpenSpec.upto wireReadsSpec)) wireReadsUptoCard

/-- THE SECOND FORM's CARD OF 'cambiumlaw17.WireBatches'. -/
def wireBatchesUptoCard : Claim7 := { stood := { row := wireBatchesUptoRow, standIns := [], harness := (true, "2a0d9c1805ed8e1cf243b6b1507eb501a4f0e834b87ef04df337e00b92df1c1b"), looks := false }, kinds := [], alts := [], laidByText := true, laidKinds := [.data, .pinned], laidTests := true, laidLooks := .later }
def WireBatchesUptoCardSaid : Prop := Claim7.holds Tryd.pinned (.plain (OpenSpec.upto wireBatchesSpec)) wireBatchesUptoCard

/-- THE SECOND FORM's CARD OF 'cambiumlaw17.WireApart'. -/
def wireApartUptoCard : Claim7 := { stood := { row := wireApartUptoRow, standIns := [], harness := (true, "2a0d9c1805ed8e1cf243b6b1507eb501a4f0e834b87ef04df337e00b92df1c1b"), looks := false }, kinds := [], alts := [], laidByText := true, laidKinds := [.data, .pinned], laidTests := true, laidLooks := .later }
def WireApartUptoCardSaid : Prop := Claim7.holds Tryd.pinned (.plain (OpenSpec.upto wireApartSpec)) wireApartUptoCard

/-- THE SECOND FORM's CARD OF 'cambiumlaw17.WireMany'. -/
def wireManyUptoCard : Claim7 := { stood := { row := wireManyUptoRow, standIns := [], harness := (true, "2a0d9c1805ed8e1cf243b6b1507eb501a4f0e834b87ef04df337e00b92df1c1b"), looks := false }, kinds := [], alts := [], laidByText := true, laidKinds := [.data, .pinned], laidTests := true, laidLooks := .later }
def WireManyUptoCardSaid : Prop := Claim7.holds Tryd.pinned (.plain (OpenSpec.upto wireManySpec)) wireManyUptoCard
end Rows
end Go.Proofs.YtkgpnfjmahjlcaaDoor
