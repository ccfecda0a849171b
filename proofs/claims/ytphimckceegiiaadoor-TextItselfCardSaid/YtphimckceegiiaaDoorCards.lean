/-
  DERIVED. GIVEN WITH THE SEED: THE CARDS: each row of YtphimckceegiiaaDoorRows.lean that lists a variable, with what it lists TIED to the program's text (the seventh form; the later family's looks); each row that meets fmt, with fmt's text TOLD by the authors' own Lean function (tested against real Go, not proved from fmt's source: count such statements apart). THE CARD IS WHAT COUNTS. Prove the row's statement (the work); the ties are given (YtphimckceegiiaaDoorTie.lean); close each card by the builder's one call (the guide's Derived/Test/ToyasCard.lean, 'card_holds'). Laid BY PROGRAM, IN A SANDBOX (cutbox-door.mjs). By AI agents, Wed Nov 11 2026. No macro, syntax, notation, axiom, sorry.
-/
import Derived.Test.YtphimckceegiiaaDoorRows
import GoSem.ClaimSeven
namespace Go.Proofs.YtphimckceegiiaaDoor
namespace Rows

/-- THE TIED CARD OF 'cambiumlaw02.TextMatches'. -/
def textMatchesCard : Claim7 := { stood := { row := textMatchesRow, standIns := [], harness := (true, "e37ece5820cb557d249dc9ce156ef073b297bcb5f8a0885eecfb2f8bab9639d2"), looks := false }, kinds := [], alts := [], laidByText := true, laidKinds := [.data, .pinned], laidTests := true, laidLooks := .later }
def TextMatchesCardSaid : Prop := Claim7.holds Tryd.pinned (.plain (OpenSpec.ofChange textMatchesSpec)) textMatchesCard

/-- THE TIED CARD OF 'cambiumlaw02.TextRunes'. -/
def textRunesCard : Claim7 := { stood := { row := textRunesRow, standIns := [], harness := (true, "e37ece5820cb557d249dc9ce156ef073b297bcb5f8a0885eecfb2f8bab9639d2"), looks := false }, kinds := [], alts := [], laidByText := true, laidKinds := [.data, .pinned], laidTests := true, laidLooks := .later }
def TextRunesCardSaid : Prop := Claim7.holds Tryd.pinned (.plain (OpenSpec.ofChange textRunesSpec)) textRunesCard

/-- THE TIED CARD OF 'cambiumlaw02.TextItself'. -/
def textItselfCard : Claim7 := { stood := { row := textItselfRow, standIns := [], harness := (true, "e37ece5820cb557d249dc9ce156ef073b297bcb5f8a0885eecfb2f8bab9639d2"), looks := false }, kinds := [], alts := [], laidByText := true, laidKinds := [.data, .pinned], laidTests := true, laidLooks := .later }
def TextItselfCardSaid : Prop := Claim7.holds Tryd.pinned (.plain (OpenSpec.ofChange textItselfSpec)) textItselfCard

/-- THE TIED CARD OF 'cambiumlaw02.TextCuts'. -/
def textCutsCard : Claim7 := { stood := { row := textCutsRow, standIns := [], harness := (true, "e37ece5820cb557d249dc9ce156ef073b297bcb5f8a0885eecfb2f8bab9639d2"), looks := false }, kinds := [], alts := [], laidByText := true, laidKinds := [.data, .pinned], laidTests := true, laidLooks := .later }
def TextCutsCardSaid : Prop := Claim7.holds Tryd.pinned (.plain (OpenSpec.ofChange textCutsSpec)) textCutsCard

/-- THE TIED CARD OF 'cambiumlaw02.TextWords'. -/
def textWordsCard : Claim7 := { stood := { row := textWordsRow, standIns := [], harness := (true, "e37ece5820cb557d249dc9ce156ef073b297bcb5f8a0885eecfb2f8bab9639d2"), looks := false }, kinds := [], alts := [], laidByText := true, laidKinds := [.data, .pinned], laidTests := true, laidLooks := .later }
def TextWordsCardSaid : Prop := Claim7.holds Tryd.pinned (.plain (OpenSpec.ofChange textWordsSpec)) textWordsCard

/-- THE TIED CARD OF 'cambiumlaw02.TextTells'. -/
def textTellsCard : Claim7 := { stood := { row := textTellsRow, standIns := [], harness := (true, "e37ece5820cb557d249dc9ce156ef073b297bcb5f8a0885eecfb2f8bab9639d2"), looks := false }, kinds := [], alts := [], laidByText := true, laidKinds := [.data, .pinned], laidTests := true, laidLooks := .later }
def TextTellsCardSaid : Prop := Claim7.holds Tryd.pinned (.plain (OpenSpec.ofChange textTellsSpec)) textTellsCard

/-- THE SECOND FORM's CARD OF 'cambiumlaw02.TextMatches'. -/
def textMatchesUptoCard : Claim7 := { stood := { row := textMatchesUptoRow, standIns := [], harness := (true, "e37ece5820cb557d249dc9ce156ef073b297bcb5f8a0885eecfb2f8bab9639d2"), looks := false }, kinds := [], alts := [], laidByText := true, laidKinds := [.data, .pinned], laidTests := true, laidLooks := .later }
def TextMatchesUptoCardSaid : Prop := Claim7.holds Tryd.pinned (.plain (OpenSpec.upto textMatchesSpec)) textMatchesUptoCard

/-- THE SECOND FORM's CARD OF 'cambiumlaw02.TextRunes'. -/
def textRunesUptoCard : Claim7 := { stood := { row := textRunesUptoRow, standIns := [], harness := (true, "e37ece5820cb557d249dc9ce156ef073b297bcb5f8a0885eecfb2f8bab9639d2"), looks := false }, kinds := [], alts := [], laidByText := true, laidKinds := [.data, .pinned], laidTests := true, laidLooks := .later }
def TextRunesUptoCardSaid : Prop := Claim7.holds Tryd.pinned (.plain (OpenSpec.upto textRunesSpec)) textRunesUptoCard

/-- THE SECOND FORM's CARD OF 'cambiumlaw02.TextItself'. -/
def textItselfUptoCard : Claim7 := { stood := { row := textItselfUptoRow, standIns := [], harness := (true, "e37ece5820cb557d249dc9ce156ef073b297bcb5f8a0885eecfb2f8bab9639d2"), looks := false }, kinds := [], alts := [], laidByText := true, laidKinds := [.data, .pinned], laidTests := true, laidLooks := .later }
def TextItselfUptoCardSaid : Prop := Claim7.holds Tryd.pinned (.plain (OpenSpec.upto textItselfSpec)) textItselfUptoCard

/-- THE SECOND FORM's CARD OF 'cambiumlaw02.TextCuts'. -/
def textCutsUptoCard : Claim7 := { stood := { row := textCutsUptoRow, standIns := [], harness := (true, "e37ece5820cb557d249dc9ce156ef073b297bcb5f8a0885eecfb2f8bab9639d2"), looks := false }, kinds := [], alts := [], laidByText := true, laidKinds := [.data, .pinned], laidTests := true, laidLooks := .later }
def TextCutsUptoCardSaid : Prop := Claim7.holds Tryd.pinned (.plain (OpenSpec.upto textCutsSpec)) textCutsUptoCard

/-- THE SECOND FORM's CARD OF 'cambiumlaw02.TextWords'. -/
def textWordsUptoCard : Claim7 := { stood := { row := textWordsUptoRow, standIns := [], harness := (true, "e37ece5820cb557d249dc9ce156ef073b297bcb5f8a0885eecfb2f8bab9639d2"), looks := false }, kinds := [], alts := [], laidByText := true, laidKinds := [.data, .pinned], laidTests := true, laidLooks := .later }
def TextWordsUptoCardSaid : Prop := Claim7.holds Tryd.pinned (.plain (OpenSpec.upto textWordsSpec)) textWordsUptoCard

/-- THE SECOND FORM's CARD OF 'cambiumlaw02.TextTells'. -/
def textTellsUptoCard : Claim7 := { stood := { row := textTellsUptoRow, standIns := [], harness := (true, "e37ece5820cb557d249dc9ce156ef073b297bcb5f8a0885eecfb2f8bab9639d2"), looks := false }, kinds := [], alts := [], laidByText := true, laidKinds := [.data, .pinned], laidTests := true, laidLooks := .later }
def TextTellsUptoCardSaid : Prop := Claim7.holds Tryd.pinned (.plain (OpenSpec.upto textTellsSpec)) textTellsUptoCard
end Rows
end Go.Proofs.YtphimckceegiiaaDoor
