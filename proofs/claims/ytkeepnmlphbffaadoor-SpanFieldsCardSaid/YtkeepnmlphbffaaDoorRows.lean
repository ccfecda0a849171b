/-
  NARROWER THAN 'FOR EVERY INPUT', by the rows' own cells (each row's printed sentence says how): SpanValues: laid · SpanOrder: laid · SpanFields: laid · SpanMay: laid · SpanSame: laid.
  DERIVED. THE GIVEN ROWS OF THIS SEAT. 5 by the template 'for every input the law returns true; each argument reads behind the call as it read before'; 0 by the template 'total and deterministic' (their statements: YtkeepnmlphbffaaDoorTotals.lean).
  GIVEN WITH THE SEED: the statements are not yours to turn. If you find one false, say at which input.
  Laid BY PROGRAM, IN A SANDBOX (cutbox-rows.mjs): the forced cells as the released guide's own fill.sh prints them over the translation b00b0256625cac4e… (all of the seat's roots in one cut). By AI agents, Wed Nov 11 2026. No macro, syntax, notation, axiom, sorry.
-/
import Derived.Test.YtkeepnmlphbffaaDoorChecked
import GoSem.PinnedTables
import GoSem.Claim
import GoSem.ClaimJoined
import GoSem.ClaimMapViews
import Derived.JoinedTies
import Derived.KernelRfl
namespace Go.Proofs.YtkeepnmlphbffaaDoor
/- THE CELL 'sum', in the pinned program and in every row, IS THE sha256 OF THE DUMP (.gsa) THAT YtkeepnmlphbffaaDoorProg.lean LOADS. Nothing in Lean hashes anything: it is a label: what it is worth is what the hold of that sum in a sandbox is worth. -/
noncomputable def Tryd.pinned : Pinned := { name := "ytkeepnmlphbffaadoor", sum := "b00b0256625cac4e1d56f3acf2de449942c33588f1bd1144c4f307ad0a45d995", checked := Tryd.checked }
namespace Rows
def none {H : Type} : Left H := { results := [], args := [] }

/- WHAT THE LISTED PACKAGE-LEVEL VARIABLES READ AS WHEN THE CALL BEGINS. Each datum BY PROGRAM (the guide's laid-datum.mjs) off the statement by which the dump's own 'gosem.cut.vars' lays the variable. In a bare row this is a premise. The card (YtkeepnmlphbffaaDoorCards.lean) ties it to the program's text. -/
def laid_unicode_utf8_acceptRanges {H : Type} : DataW H := .agg [.agg [.lit (.int .u8 128), .lit (.int .u8 191)], .agg [.lit (.int .u8 160), .lit (.int .u8 191)], .agg [.lit (.int .u8 128), .lit (.int .u8 159)], .agg [.lit (.int .u8 144), .lit (.int .u8 191)], .agg [.lit (.int .u8 128), .lit (.int .u8 143)], .agg [.lit (.int .u8 0), .lit (.int .u8 0)], .agg [.lit (.int .u8 0), .lit (.int .u8 0)], .agg [.lit (.int .u8 0), .lit (.int .u8 0)], .agg [.lit (.int .u8 0), .lit (.int .u8 0)], .agg [.lit (.int .u8 0), .lit (.int .u8 0)], .agg [.lit (.int .u8 0), .lit (.int .u8 0)], .agg [.lit (.int .u8 0), .lit (.int .u8 0)], .agg [.lit (.int .u8 0), .lit (.int .u8 0)], .agg [.lit (.int .u8 0), .lit (.int .u8 0)], .agg [.lit (.int .u8 0), .lit (.int .u8 0)], .agg [.lit (.int .u8 0), .lit (.int .u8 0)]]
/-- One of Go's own tables, pinned by name: the form's constant. -/
def laid_unicode_utf8_first : DataW Unit := Go.Pinned.utf8First

/-- 'cambiumlaw16.SpanValues': WHATEVER THE INPUT: true; the input reads as it did. -/
def spanValuesSpec : ChangeSpec := { name := "spanValues", fn := fun _ => fun
  | [d1, d2] => { results := [.lit (.bool true)], args := [d1, d2] }
  | _ => none }
def spanValuesRow : OpenClaim := { program := "ytkeepnmlphbffaadoor", sum := "b00b0256625cac4e1d56f3acf2de449942c33588f1bd1144c4f307ad0a45d995", func := "cambium/cambiumlaw16.SpanValues", spec := "spanValues", inPlace := ["internal/bytealg.abigen_runtime_cmpstring"], unfollowed := true, recurses := true, named := ["unicode/utf8.first", "unicode/utf8.acceptRanges"], apart := false, laid := [("unicode/utf8.acceptRanges", laid_unicode_utf8_acceptRanges), ("unicode/utf8.first", laid_unicode_utf8_first)] }
def SpanValuesSaid : Prop := spanValuesRow.holds Tryd.pinned (OpenSpec.ofChange spanValuesSpec)

/-- ITS FALSE NEIGHBOUR: 'it returns false'. Refute it at one input. -/
def spanValuesWrong : ChangeSpec := { name := "spanValues", fn := fun _ => fun
  | [d1, d2] => { results := [.lit (.bool false)], args := [d1, d2] }
  | _ => none }
def SpanValuesWrongFalsely : Prop := spanValuesRow.holds Tryd.pinned (OpenSpec.ofChange spanValuesWrong)

/-- 'cambiumlaw16.SpanOrder': WHATEVER THE INPUT: true; the input reads as it did. -/
def spanOrderSpec : ChangeSpec := { name := "spanOrder", fn := fun _ => fun
  | [d] => { results := [.lit (.bool true)], args := [d] }
  | _ => none }
def spanOrderRow : OpenClaim := { program := "ytkeepnmlphbffaadoor", sum := "b00b0256625cac4e1d56f3acf2de449942c33588f1bd1144c4f307ad0a45d995", func := "cambium/cambiumlaw16.SpanOrder", spec := "spanOrder", inPlace := ["internal/bytealg.abigen_runtime_cmpstring"], unfollowed := true, recurses := true, named := ["unicode/utf8.first", "unicode/utf8.acceptRanges"], apart := false, laid := [("unicode/utf8.acceptRanges", laid_unicode_utf8_acceptRanges), ("unicode/utf8.first", laid_unicode_utf8_first)] }
def SpanOrderSaid : Prop := spanOrderRow.holds Tryd.pinned (OpenSpec.ofChange spanOrderSpec)

/-- ITS FALSE NEIGHBOUR: 'it returns false'. Refute it at one input. -/
def spanOrderWrong : ChangeSpec := { name := "spanOrder", fn := fun _ => fun
  | [d] => { results := [.lit (.bool false)], args := [d] }
  | _ => none }
def SpanOrderWrongFalsely : Prop := spanOrderRow.holds Tryd.pinned (OpenSpec.ofChange spanOrderWrong)

/-- 'cambiumlaw16.SpanFields': WHATEVER THE INPUT: true; the input reads as it did. -/
def spanFieldsSpec : ChangeSpec := { name := "spanFields", fn := fun _ => fun
  | [d1, d2] => { results := [.lit (.bool true)], args := [d1, d2] }
  | _ => none }
def spanFieldsRow : OpenClaim := { program := "ytkeepnmlphbffaadoor", sum := "b00b0256625cac4e1d56f3acf2de449942c33588f1bd1144c4f307ad0a45d995", func := "cambium/cambiumlaw16.SpanFields", spec := "spanFields", inPlace := ["internal/bytealg.abigen_runtime_cmpstring"], unfollowed := true, recurses := true, named := ["unicode/utf8.first", "unicode/utf8.acceptRanges"], apart := false, laid := [("unicode/utf8.acceptRanges", laid_unicode_utf8_acceptRanges), ("unicode/utf8.first", laid_unicode_utf8_first)] }
def SpanFieldsSaid : Prop := spanFieldsRow.holds Tryd.pinned (OpenSpec.ofChange spanFieldsSpec)

/-- ITS FALSE NEIGHBOUR: 'it returns false'. Refute it at one input. -/
def spanFieldsWrong : ChangeSpec := { name := "spanFields", fn := fun _ => fun
  | [d1, d2] => { results := [.lit (.bool false)], args := [d1, d2] }
  | _ => none }
def SpanFieldsWrongFalsely : Prop := spanFieldsRow.holds Tryd.pinned (OpenSpec.ofChange spanFieldsWrong)

/-- 'cambiumlaw16.SpanMay': WHATEVER THE INPUT: true; the input reads as it did. -/
def spanMaySpec : ChangeSpec := { name := "spanMay", fn := fun _ => fun
  | [d1, d2] => { results := [.lit (.bool true)], args := [d1, d2] }
  | _ => none }
def spanMayRow : OpenClaim := { program := "ytkeepnmlphbffaadoor", sum := "b00b0256625cac4e1d56f3acf2de449942c33588f1bd1144c4f307ad0a45d995", func := "cambium/cambiumlaw16.SpanMay", spec := "spanMay", inPlace := ["internal/bytealg.abigen_runtime_cmpstring"], unfollowed := true, recurses := true, named := ["unicode/utf8.first", "unicode/utf8.acceptRanges"], apart := false, laid := [("unicode/utf8.acceptRanges", laid_unicode_utf8_acceptRanges), ("unicode/utf8.first", laid_unicode_utf8_first)] }
def SpanMaySaid : Prop := spanMayRow.holds Tryd.pinned (OpenSpec.ofChange spanMaySpec)

/-- ITS FALSE NEIGHBOUR: 'it returns false'. Refute it at one input. -/
def spanMayWrong : ChangeSpec := { name := "spanMay", fn := fun _ => fun
  | [d1, d2] => { results := [.lit (.bool false)], args := [d1, d2] }
  | _ => none }
def SpanMayWrongFalsely : Prop := spanMayRow.holds Tryd.pinned (OpenSpec.ofChange spanMayWrong)

/-- 'cambiumlaw16.SpanSame': WHATEVER THE INPUT: true; the input reads as it did. -/
def spanSameSpec : ChangeSpec := { name := "spanSame", fn := fun _ => fun
  | [d1, d2] => { results := [.lit (.bool true)], args := [d1, d2] }
  | _ => none }
def spanSameRow : OpenClaim := { program := "ytkeepnmlphbffaadoor", sum := "b00b0256625cac4e1d56f3acf2de449942c33588f1bd1144c4f307ad0a45d995", func := "cambium/cambiumlaw16.SpanSame", spec := "spanSame", inPlace := ["internal/bytealg.abigen_runtime_cmpstring"], unfollowed := true, recurses := true, named := ["unicode/utf8.first", "unicode/utf8.acceptRanges"], apart := false, laid := [("unicode/utf8.acceptRanges", laid_unicode_utf8_acceptRanges), ("unicode/utf8.first", laid_unicode_utf8_first)] }
def SpanSameSaid : Prop := spanSameRow.holds Tryd.pinned (OpenSpec.ofChange spanSameSpec)

/-- ITS FALSE NEIGHBOUR: 'it returns false'. Refute it at one input. -/
def spanSameWrong : ChangeSpec := { name := "spanSame", fn := fun _ => fun
  | [d1, d2] => { results := [.lit (.bool false)], args := [d1, d2] }
  | _ => none }
def SpanSameWrongFalsely : Prop := spanSameRow.holds Tryd.pinned (OpenSpec.ofChange spanSameWrong)

/- THE SECOND FORM. 'bulk': how many values and letters a reading holds, each counted each time it is reached (what is shared counts as often as it is met; a slice's spare places count too). A statement '..UptoSaid' is the law's where the arguments, and the package variables that the reading takes, are together of bulk at most 1048576: NARROWER than '..Said'. Prove '..Said' where nothing that the law and all that it calls make is longer than what came in: it says more and counts as full. Else prove '..UptoSaid'. A law counts once. -/
mutual
def uptoBulk {H : Type} : DataW H → Nat
  | .lit (.string bytes) => bytes.length + 1
  | .lit _ => 1
  | .nil => 1
  | .ptr d => uptoBulk d + 1
  | .slice elems spare => uptoBulkAll elems + uptoBulkAll spare + 1
  | .agg parts => uptoBulkAll parts + 1
  | .iface _ d => uptoBulk d + 1
  | .map entries => uptoBulkEntries entries + 1
  | .held _ => 1
def uptoBulkAll {H : Type} : List (DataW H) → Nat
  | [] => 0
  | d :: r => uptoBulk d + uptoBulkAll r
def uptoBulkEntries {H : Type} : List (Lit × DataW H) → Nat
  | [] => 0
  | x :: r => uptoBulkEntry x + uptoBulkEntries r
def uptoBulkEntry {H : Type} : Lit × DataW H → Nat
  | (.string bytes, d) => bytes.length + uptoBulk d + 1
  | (_, d) => uptoBulk d + 1
 end
def uptoSmall : (H : Type) → List (DataW H) → Bool := fun _ ds => decide (uptoBulkAll ds ≤ 1048576)
def OpenSpec.upto (s : _root_.Go.ChangeSpec) : _root_.Go.OpenSpec := { _root_.Go.OpenSpec.ofChange s with cond := some uptoSmall }

/-- 'cambiumlaw16.SpanValues', WHERE WHAT IT READS IS OF BULK AT MOST 1048576: true; the input reads as it did. -/
def spanValuesUptoRow : OpenClaim := { program := "ytkeepnmlphbffaadoor", sum := "b00b0256625cac4e1d56f3acf2de449942c33588f1bd1144c4f307ad0a45d995", func := "cambium/cambiumlaw16.SpanValues", spec := "spanValues", inPlace := ["internal/bytealg.abigen_runtime_cmpstring"], unfollowed := true, recurses := true, named := ["unicode/utf8.first", "unicode/utf8.acceptRanges"], apart := false, laid := [("unicode/utf8.acceptRanges", laid_unicode_utf8_acceptRanges), ("unicode/utf8.first", laid_unicode_utf8_first)], narrowed := true }
def SpanValuesUptoSaid : Prop := spanValuesUptoRow.holds Tryd.pinned (OpenSpec.upto spanValuesSpec)

/-- 'cambiumlaw16.SpanOrder', WHERE WHAT IT READS IS OF BULK AT MOST 1048576: true; the input reads as it did. -/
def spanOrderUptoRow : OpenClaim := { program := "ytkeepnmlphbffaadoor", sum := "b00b0256625cac4e1d56f3acf2de449942c33588f1bd1144c4f307ad0a45d995", func := "cambium/cambiumlaw16.SpanOrder", spec := "spanOrder", inPlace := ["internal/bytealg.abigen_runtime_cmpstring"], unfollowed := true, recurses := true, named := ["unicode/utf8.first", "unicode/utf8.acceptRanges"], apart := false, laid := [("unicode/utf8.acceptRanges", laid_unicode_utf8_acceptRanges), ("unicode/utf8.first", laid_unicode_utf8_first)], narrowed := true }
def SpanOrderUptoSaid : Prop := spanOrderUptoRow.holds Tryd.pinned (OpenSpec.upto spanOrderSpec)

/-- 'cambiumlaw16.SpanFields', WHERE WHAT IT READS IS OF BULK AT MOST 1048576: true; the input reads as it did. -/
def spanFieldsUptoRow : OpenClaim := { program := "ytkeepnmlphbffaadoor", sum := "b00b0256625cac4e1d56f3acf2de449942c33588f1bd1144c4f307ad0a45d995", func := "cambium/cambiumlaw16.SpanFields", spec := "spanFields", inPlace := ["internal/bytealg.abigen_runtime_cmpstring"], unfollowed := true, recurses := true, named := ["unicode/utf8.first", "unicode/utf8.acceptRanges"], apart := false, laid := [("unicode/utf8.acceptRanges", laid_unicode_utf8_acceptRanges), ("unicode/utf8.first", laid_unicode_utf8_first)], narrowed := true }
def SpanFieldsUptoSaid : Prop := spanFieldsUptoRow.holds Tryd.pinned (OpenSpec.upto spanFieldsSpec)

/-- 'cambiumlaw16.SpanMay', WHERE WHAT IT READS IS OF BULK AT MOST 1048576: true; the input reads as it did. -/
def spanMayUptoRow : OpenClaim := { program := "ytkeepnmlphbffaadoor", sum := "b00b0256625cac4e1d56f3acf2de449942c33588f1bd1144c4f307ad0a45d995", func := "cambium/cambiumlaw16.SpanMay", spec := "spanMay", inPlace := ["internal/bytealg.abigen_runtime_cmpstring"], unfollowed := true, recurses := true, named := ["unicode/utf8.first", "unicode/utf8.acceptRanges"], apart := false, laid := [("unicode/utf8.acceptRanges", laid_unicode_utf8_acceptRanges), ("unicode/utf8.first", laid_unicode_utf8_first)], narrowed := true }
def SpanMayUptoSaid : Prop := spanMayUptoRow.holds Tryd.pinned (OpenSpec.upto spanMaySpec)

/-- 'cambiumlaw16.SpanSame', WHERE WHAT IT READS IS OF BULK AT MOST 1048576: true; the input reads as it did. -/
def spanSameUptoRow : OpenClaim := { program := "ytkeepnmlphbffaadoor", sum := "b00b0256625cac4e1d56f3acf2de449942c33588f1bd1144c4f307ad0a45d995", func := "cambium/cambiumlaw16.SpanSame", spec := "spanSame", inPlace := ["internal/bytealg.abigen_runtime_cmpstring"], unfollowed := true, recurses := true, named := ["unicode/utf8.first", "unicode/utf8.acceptRanges"], apart := false, laid := [("unicode/utf8.acceptRanges", laid_unicode_utf8_acceptRanges), ("unicode/utf8.first", laid_unicode_utf8_first)], narrowed := true }
def SpanSameUptoSaid : Prop := spanSameUptoRow.holds Tryd.pinned (OpenSpec.upto spanSameSpec)

end Rows
end Go.Proofs.YtkeepnmlphbffaaDoor
