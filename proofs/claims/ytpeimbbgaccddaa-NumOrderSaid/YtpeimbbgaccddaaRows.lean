/-
  No cell of these rows narrows 'for every input' (looked for: loops, veiled, ifaces, maps, wideKeys, modest, calm, conditions, laid).
  DERIVED. THE GIVEN ROWS OF THIS SEAT. 7 by the template 'for every input the law returns true; each argument reads behind the call as it read before'; 0 by the template 'total and deterministic' (their statements: YtpeimbbgaccddaaTotals.lean).
  GIVEN WITH THE SEED: the statements are not yours to turn. If you find one false, say at which input.
  Laid BY PROGRAM, IN A SANDBOX (cutbox-rows.mjs): the forced cells as the released guide's own fill.sh prints them over the translation 58edff6133c81706… (all of the seat's roots in one cut). By AI agents, Wed Nov 11 2026. No macro, syntax, notation, axiom, sorry.
-/
import Derived.Test.YtpeimbbgaccddaaChecked
import GoSem.Claim
import GoSem.ClaimJoined
import GoSem.ClaimMapViews
import Derived.JoinedTies
import Derived.KernelRfl
namespace Go.Proofs.Ytpeimbbgaccddaa
/- THE CELL 'sum', in the pinned program and in every row, IS THE sha256 OF THE DUMP (.gsa) THAT YtpeimbbgaccddaaProg.lean LOADS. Nothing in Lean hashes anything: it is a label: what it is worth is what the hold of that sum in a sandbox is worth. -/
noncomputable def Try.pinned : Pinned := { name := "ytpeimbbgaccddaa", sum := "58edff6133c8170633bc920f586bab02d1a81d4e16e8651d3e463092e8e13051", checked := Try.checked }
namespace Rows
def none {H : Type} : Left H := { results := [], args := [] }

/-- 'cambiumlaw01.NumReads': WHATEVER THE INPUT: true; the input reads as it did. -/
def numReadsSpec : ChangeSpec := { name := "numReads", fn := fun _ => fun
  | [d] => { results := [.lit (.bool true)], args := [d] }
  | _ => none }
def numReadsRow : OpenClaim := { program := "ytpeimbbgaccddaa", sum := "58edff6133c8170633bc920f586bab02d1a81d4e16e8651d3e463092e8e13051", func := "cambium/cambiumlaw01.NumReads", spec := "numReads", apart := false }
def NumReadsSaid : Prop := numReadsRow.holds Try.pinned (OpenSpec.ofChange numReadsSpec)

/-- ITS FALSE NEIGHBOUR: 'it returns false'. Refute it at one input. -/
def numReadsWrong : ChangeSpec := { name := "numReads", fn := fun _ => fun
  | [d] => { results := [.lit (.bool false)], args := [d] }
  | _ => none }
def NumReadsWrongFalsely : Prop := numReadsRow.holds Try.pinned (OpenSpec.ofChange numReadsWrong)

/-- 'cambiumlaw01.NumFour': WHATEVER THE INPUT: true; the input reads as it did. -/
def numFourSpec : ChangeSpec := { name := "numFour", fn := fun _ => fun
  | [d1, d2] => { results := [.lit (.bool true)], args := [d1, d2] }
  | _ => none }
def numFourRow : OpenClaim := { program := "ytpeimbbgaccddaa", sum := "58edff6133c8170633bc920f586bab02d1a81d4e16e8651d3e463092e8e13051", func := "cambium/cambiumlaw01.NumFour", spec := "numFour", apart := false }
def NumFourSaid : Prop := numFourRow.holds Try.pinned (OpenSpec.ofChange numFourSpec)

/-- ITS FALSE NEIGHBOUR: 'it returns false'. Refute it at one input. -/
def numFourWrong : ChangeSpec := { name := "numFour", fn := fun _ => fun
  | [d1, d2] => { results := [.lit (.bool false)], args := [d1, d2] }
  | _ => none }
def NumFourWrongFalsely : Prop := numFourRow.holds Try.pinned (OpenSpec.ofChange numFourWrong)

/-- 'cambiumlaw01.NumLengths': WHATEVER THE INPUT: true; the input reads as it did. -/
def numLengthsSpec : ChangeSpec := { name := "numLengths", fn := fun _ => fun
  | [d] => { results := [.lit (.bool true)], args := [d] }
  | _ => none }
def numLengthsRow : OpenClaim := { program := "ytpeimbbgaccddaa", sum := "58edff6133c8170633bc920f586bab02d1a81d4e16e8651d3e463092e8e13051", func := "cambium/cambiumlaw01.NumLengths", spec := "numLengths", apart := false }
def NumLengthsSaid : Prop := numLengthsRow.holds Try.pinned (OpenSpec.ofChange numLengthsSpec)

/-- ITS FALSE NEIGHBOUR: 'it returns false'. Refute it at one input. -/
def numLengthsWrong : ChangeSpec := { name := "numLengths", fn := fun _ => fun
  | [d] => { results := [.lit (.bool false)], args := [d] }
  | _ => none }
def NumLengthsWrongFalsely : Prop := numLengthsRow.holds Try.pinned (OpenSpec.ofChange numLengthsWrong)

/-- 'cambiumlaw01.NumRow': WHATEVER THE INPUT: true; the input reads as it did. -/
def numRowSpec : ChangeSpec := { name := "numRow", fn := fun _ => fun
  | [d] => { results := [.lit (.bool true)], args := [d] }
  | _ => none }
def numRowRow : OpenClaim := { program := "ytpeimbbgaccddaa", sum := "58edff6133c8170633bc920f586bab02d1a81d4e16e8651d3e463092e8e13051", func := "cambium/cambiumlaw01.NumRow", spec := "numRow", apart := false }
def NumRowSaid : Prop := numRowRow.holds Try.pinned (OpenSpec.ofChange numRowSpec)

/-- ITS FALSE NEIGHBOUR: 'it returns false'. Refute it at one input. -/
def numRowWrong : ChangeSpec := { name := "numRow", fn := fun _ => fun
  | [d] => { results := [.lit (.bool false)], args := [d] }
  | _ => none }
def NumRowWrongFalsely : Prop := numRowRow.holds Try.pinned (OpenSpec.ofChange numRowWrong)

/-- 'cambiumlaw01.NumShort': WHATEVER THE INPUT: true; the input reads as it did. -/
def numShortSpec : ChangeSpec := { name := "numShort", fn := fun _ => fun
  | [d1, d2, d3] => { results := [.lit (.bool true)], args := [d1, d2, d3] }
  | _ => none }
def numShortRow : OpenClaim := { program := "ytpeimbbgaccddaa", sum := "58edff6133c8170633bc920f586bab02d1a81d4e16e8651d3e463092e8e13051", func := "cambium/cambiumlaw01.NumShort", spec := "numShort", apart := false }
def NumShortSaid : Prop := numShortRow.holds Try.pinned (OpenSpec.ofChange numShortSpec)

/-- ITS FALSE NEIGHBOUR: 'it returns false'. Refute it at one input. -/
def numShortWrong : ChangeSpec := { name := "numShort", fn := fun _ => fun
  | [d1, d2, d3] => { results := [.lit (.bool false)], args := [d1, d2, d3] }
  | _ => none }
def NumShortWrongFalsely : Prop := numShortRow.holds Try.pinned (OpenSpec.ofChange numShortWrong)

/-- 'cambiumlaw01.NumSigns': WHATEVER THE INPUT: true; the input reads as it did. -/
def numSignsSpec : ChangeSpec := { name := "numSigns", fn := fun _ => fun
  | [d] => { results := [.lit (.bool true)], args := [d] }
  | _ => none }
def numSignsRow : OpenClaim := { program := "ytpeimbbgaccddaa", sum := "58edff6133c8170633bc920f586bab02d1a81d4e16e8651d3e463092e8e13051", func := "cambium/cambiumlaw01.NumSigns", spec := "numSigns", apart := false }
def NumSignsSaid : Prop := numSignsRow.holds Try.pinned (OpenSpec.ofChange numSignsSpec)

/-- ITS FALSE NEIGHBOUR: 'it returns false'. Refute it at one input. -/
def numSignsWrong : ChangeSpec := { name := "numSigns", fn := fun _ => fun
  | [d] => { results := [.lit (.bool false)], args := [d] }
  | _ => none }
def NumSignsWrongFalsely : Prop := numSignsRow.holds Try.pinned (OpenSpec.ofChange numSignsWrong)

/-- 'cambiumlaw01.NumOrder': WHATEVER THE INPUT: true; the input reads as it did. -/
def numOrderSpec : ChangeSpec := { name := "numOrder", fn := fun _ => fun
  | [d1, d2, d3] => { results := [.lit (.bool true)], args := [d1, d2, d3] }
  | _ => none }
def numOrderRow : OpenClaim := { program := "ytpeimbbgaccddaa", sum := "58edff6133c8170633bc920f586bab02d1a81d4e16e8651d3e463092e8e13051", func := "cambium/cambiumlaw01.NumOrder", spec := "numOrder", unfollowed := true, recurses := true, apart := false }
def NumOrderSaid : Prop := numOrderRow.holds Try.pinned (OpenSpec.ofChange numOrderSpec)

/-- ITS FALSE NEIGHBOUR: 'it returns false'. Refute it at one input. -/
def numOrderWrong : ChangeSpec := { name := "numOrder", fn := fun _ => fun
  | [d1, d2, d3] => { results := [.lit (.bool false)], args := [d1, d2, d3] }
  | _ => none }
def NumOrderWrongFalsely : Prop := numOrderRow.holds Try.pinned (OpenSpec.ofChange numOrderWrong)

/- THE SECOND FORM. 'bulk': how many values and letters a reading holds, each counted each time it is reached (what is shared counts as often as it is met; a slice's spare places count too). A statement '..UptoSaid' is the law's where the arguments, and the package variables that the reading takes, are together of bulk at most 1048576: NARROWER than '..Said'. Prove '..Said' where nothing that the law and all that it calls make is longer than what came in: it says more and counts as full. Else prove '..UptoSaid'. A law counts once. -/
mutual
def uptoBulk {H : Type} : DataW H → Nat
  | .lit (.string bytes) => bytes.length + 1
  | .lit _ => 1
  | .nil => 1
  | .ptr d => uptoBulk d + 1
  | .slice elems spare => uptoBulkAll elems + uptoBulkAll spare + 1
  | .agg parts => uptoBulkAll parts + 1
  | .iface _ d => uptoBulk d + 1
  | .map entries => uptoBulkEntries entries + 1
  | .held _ => 1
def uptoBulkAll {H : Type} : List (DataW H) → Nat
  | [] => 0
  | d :: r => uptoBulk d + uptoBulkAll r
def uptoBulkEntries {H : Type} : List (Lit × DataW H) → Nat
  | [] => 0
  | x :: r => uptoBulkEntry x + uptoBulkEntries r
def uptoBulkEntry {H : Type} : Lit × DataW H → Nat
  | (.string bytes, d) => bytes.length + uptoBulk d + 1
  | (_, d) => uptoBulk d + 1
 end
def uptoSmall : (H : Type) → List (DataW H) → Bool := fun _ ds => decide (uptoBulkAll ds ≤ 1048576)
def OpenSpec.upto (s : _root_.Go.ChangeSpec) : _root_.Go.OpenSpec := { _root_.Go.OpenSpec.ofChange s with cond := some uptoSmall }

/-- 'cambiumlaw01.NumReads', WHERE WHAT IT READS IS OF BULK AT MOST 1048576: true; the input reads as it did. -/
def numReadsUptoRow : OpenClaim := { program := "ytpeimbbgaccddaa", sum := "58edff6133c8170633bc920f586bab02d1a81d4e16e8651d3e463092e8e13051", func := "cambium/cambiumlaw01.NumReads", spec := "numReads", apart := false, narrowed := true }
def NumReadsUptoSaid : Prop := numReadsUptoRow.holds Try.pinned (OpenSpec.upto numReadsSpec)

/-- 'cambiumlaw01.NumFour', WHERE WHAT IT READS IS OF BULK AT MOST 1048576: true; the input reads as it did. -/
def numFourUptoRow : OpenClaim := { program := "ytpeimbbgaccddaa", sum := "58edff6133c8170633bc920f586bab02d1a81d4e16e8651d3e463092e8e13051", func := "cambium/cambiumlaw01.NumFour", spec := "numFour", apart := false, narrowed := true }
def NumFourUptoSaid : Prop := numFourUptoRow.holds Try.pinned (OpenSpec.upto numFourSpec)

/-- 'cambiumlaw01.NumLengths', WHERE WHAT IT READS IS OF BULK AT MOST 1048576: true; the input reads as it did. -/
def numLengthsUptoRow : OpenClaim := { program := "ytpeimbbgaccddaa", sum := "58edff6133c8170633bc920f586bab02d1a81d4e16e8651d3e463092e8e13051", func := "cambium/cambiumlaw01.NumLengths", spec := "numLengths", apart := false, narrowed := true }
def NumLengthsUptoSaid : Prop := numLengthsUptoRow.holds Try.pinned (OpenSpec.upto numLengthsSpec)

/-- 'cambiumlaw01.NumRow', WHERE WHAT IT READS IS OF BULK AT MOST 1048576: true; the input reads as it did. -/
def numRowUptoRow : OpenClaim := { program := "ytpeimbbgaccddaa", sum := "58edff6133c8170633bc920f586bab02d1a81d4e16e8651d3e463092e8e13051", func := "cambium/cambiumlaw01.NumRow", spec := "numRow", apart := false, narrowed := true }
def NumRowUptoSaid : Prop := numRowUptoRow.holds Try.pinned (OpenSpec.upto numRowSpec)

/-- 'cambiumlaw01.NumShort', WHERE WHAT IT READS IS OF BULK AT MOST 1048576: true; the input reads as it did. -/
def numShortUptoRow : OpenClaim := { program := "ytpeimbbgaccddaa", sum := "58edff6133c8170633bc920f586bab02d1a81d4e16e8651d3e463092e8e13051", func := "cambium/cambiumlaw01.NumShort", spec := "numShort", apart := false, narrowed := true }
def NumShortUptoSaid : Prop := numShortUptoRow.holds Try.pinned (OpenSpec.upto numShortSpec)

/-- 'cambiumlaw01.NumSigns', WHERE WHAT IT READS IS OF BULK AT MOST 1048576: true; the input reads as it did. -/
def numSignsUptoRow : OpenClaim := { program := "ytpeimbbgaccddaa", sum := "58edff6133c8170633bc920f586bab02d1a81d4e16e8651d3e463092e8e13051", func := "cambium/cambiumlaw01.NumSigns", spec := "numSigns", apart := false, narrowed := true }
def NumSignsUptoSaid : Prop := numSignsUptoRow.holds Try.pinned (OpenSpec.upto numSignsSpec)

/-- 'cambiumlaw01.NumOrder', WHERE WHAT IT READS IS OF BULK AT MOST 1048576: true; the input reads as it did. -/
def numOrderUptoRow : OpenClaim := { program := "ytpeimbbgaccddaa", sum := "58edff6133c8170633bc920f586bab02d1a81d4e16e8651d3e463092e8e13051", func := "cambium/cambiumlaw01.NumOrder", spec := "numOrder", unfollowed := true, recurses := true, apart := false, narrowed := true }
def NumOrderUptoSaid : Prop := numOrderUptoRow.holds Try.pinned (OpenSpec.upto numOrderSpec)

end Rows
end Go.Proofs.Ytpeimbbgaccddaa
