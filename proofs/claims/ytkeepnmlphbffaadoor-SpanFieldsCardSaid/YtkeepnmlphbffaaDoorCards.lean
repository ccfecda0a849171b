/-
  DERIVED. GIVEN WITH THE SEED: THE CARDS: each row of YtkeepnmlphbffaaDoorRows.lean that lists a variable, with what it lists TIED to the program's text (the seventh form; the later family's looks); each row that meets fmt, with fmt's text TOLD by the authors' own Lean function (tested against real Go, not proved from fmt's source: count such statements apart). THE CARD IS WHAT COUNTS. Prove the row's statement (the work); the ties are given (YtkeepnmlphbffaaDoorTie.lean); close each card by the builder's one call (the guide's Derived/Test/ToyasCard.lean, 'card_holds'). Laid BY PROGRAM, IN A SANDBOX (cutbox-door.mjs). By AI agents, Wed Nov 11 2026. No macro, syntax, notation, axiom, sorry.
-/
import Derived.Test.YtkeepnmlphbffaaDoorRows
import GoSem.ClaimSeven
namespace Go.Proofs.YtkeepnmlphbffaaDoor
namespace Rows

/-- THE TIED CARD OF 'cambiumlaw16.SpanValues'. -/
def spanValuesCard : Claim7 := { stood := { row := spanValuesRow, standIns := [], harness := (true, "e07d8c4dd8dac5ce34f03dd4cf986494ac59daf3d238c58aa2394fb6fceea007"), looks := true }, kinds := [], alts := [], laidByText := true, laidKinds := [.data, .pinned], laidTests := true, laidLooks := .later }
def SpanValuesCardSaid : Prop := Claim7.holds Tryd.pinned (.plain (OpenSpec.ofChange spanValuesSpec)) spanValuesCard

/-- THE TIED CARD OF 'cambiumlaw16.SpanOrder'. -/
def spanOrderCard : Claim7 := { stood := { row := spanOrderRow, standIns := [], harness := (true, "e07d8c4dd8dac5ce34f03dd4cf986494ac59daf3d238c58aa2394fb6fceea007"), looks := true }, kinds := [], alts := [], laidByText := true, laidKinds := [.data, .pinned], laidTests := true, laidLooks := .later }
def SpanOrderCardSaid : Prop := Claim7.holds Tryd.pinned (.plain (OpenSpec.ofChange spanOrderSpec)) spanOrderCard

/-- THE TIED CARD OF 'cambiumlaw16.SpanFields'. -/
def spanFieldsCard : Claim7 := { stood := { row := spanFieldsRow, standIns := [], harness := (true, "e07d8c4dd8dac5ce34f03dd4cf986494ac59daf3d238c58aa2394fb6fceea007"), looks := true }, kinds := [], alts := [], laidByText := true, laidKinds := [.data, .pinned], laidTests := true, laidLooks := .later }
def SpanFieldsCardSaid : Prop := Claim7.holds Tryd.pinned (.plain (OpenSpec.ofChange spanFieldsSpec)) spanFieldsCard

/-- THE TIED CARD OF 'cambiumlaw16.SpanMay'. -/
def spanMayCard : Claim7 := { stood := { row := spanMayRow, standIns := [], harness := (true, "e07d8c4dd8dac5ce34f03dd4cf986494ac59daf3d238c58aa2394fb6fceea007"), looks := true }, kinds := [], alts := [], laidByText := true, laidKinds := [.data, .pinned], laidTests := true, laidLooks := .later }
def SpanMayCardSaid : Prop := Claim7.holds Tryd.pinned (.plain (OpenSpec.ofChange spanMaySpec)) spanMayCard

/-- THE TIED CARD OF 'cambiumlaw16.SpanSame'. -/
def spanSameCard : Claim7 := { stood := { row := spanSameRow, standIns := [], harness := (true, "e07d8c4dd8dac5ce34f03dd4cf986494ac59daf3d238c58aa2394fb6fceea007"), looks := true }, kinds := [], alts := [], laidByText := true, laidKinds := [.data, .pinned], laidTests := true, laidLooks := .later }
def SpanSameCardSaid : Prop := Claim7.holds Tryd.pinned (.plain (OpenSpec.ofChange spanSameSpec)) spanSameCard

/-- THE SECOND FORM's CARD OF 'cambiumlaw16.SpanValues'. -/
def spanValuesUptoCard : Claim7 := { stood := { row := spanValuesUptoRow, standIns := [], harness := (true, "e07d8c4dd8dac5ce34f03dd4cf986494ac59daf3d238c58aa2394fb6fceea007"), looks := true }, kinds := [], alts := [], laidByText := true, laidKinds := [.data, .pinned], laidTests := true, laidLooks := .later }
def SpanValuesUptoCardSaid : Prop := Claim7.holds Tryd.pinned (.plain (OpenSpec.upto spanValuesSpec)) spanValuesUptoCard

/-- THE SECOND FORM's CARD OF 'cambiumlaw16.SpanOrder'. -/
def spanOrderUptoCard : Claim7 := { stood := { row := spanOrderUptoRow, standIns := [], harness := (true, "e07d8c4dd8dac5ce34f03dd4cf986494ac59daf3d238c58aa2394fb6fceea007"), looks := true }, kinds := [], alts := [], laidByText := true, laidKinds := [.data, .pinned], laidTests := true, laidLooks := .later }
def SpanOrderUptoCardSaid : Prop := Claim7.holds Tryd.pinned (.plain (OpenSpec.upto spanOrderSpec)) spanOrderUptoCard

/-- THE SECOND FORM's CARD OF 'cambiumlaw16.SpanFields'. -/
def spanFieldsUptoCard : Claim7 := { stood := { row := spanFieldsUptoRow, standIns := [], harness := (true, "e07d8c4dd8dac5ce34f03dd4cf986494ac59daf3d238c58aa2394fb6fceea007"), looks := true }, kinds := [], alts := [], laidByText := true, laidKinds := [.data, .pinned], laidTests := true, laidLooks := .later }
def SpanFieldsUptoCardSaid : Prop := Claim7.holds Tryd.pinned (.plain (OpenSpec.upto spanFieldsSpec)) spanFieldsUptoCard

/-- THE SECOND FORM's CARD OF 'cambiumlaw16.SpanMay'. -/
def spanMayUptoCard : Claim7 := { stood := { row := spanMayUptoRow, standIns := [], harness := (true, "e07d8c4dd8dac5ce34f03dd4cf986494ac59daf3d238c58aa2394fb6fceea007"), looks := true }, kinds := [], alts := [], laidByText := true, laidKinds := [.data, .pinned], laidTests := true, laidLooks := .later }
def SpanMayUptoCardSaid : Prop := Claim7.holds Tryd.pinned (.plain (OpenSpec.upto spanMaySpec)) spanMayUptoCard

/-- THE SECOND FORM's CARD OF 'cambiumlaw16.SpanSame'. -/
def spanSameUptoCard : Claim7 := { stood := { row := spanSameUptoRow, standIns := [], harness := (true, "e07d8c4dd8dac5ce34f03dd4cf986494ac59daf3d238c58aa2394fb6fceea007"), looks := true }, kinds := [], alts := [], laidByText := true, laidKinds := [.data, .pinned], laidTests := true, laidLooks := .later }
def SpanSameUptoCardSaid : Prop := Claim7.holds Tryd.pinned (.plain (OpenSpec.upto spanSameSpec)) spanSameUptoCard
end Rows
end Go.Proofs.YtkeepnmlphbffaaDoor
