/-
  NARROWER THAN 'FOR EVERY INPUT', by the rows' own cells (each row's printed sentence says how): WireSpans: laid · WireReads: laid · WireBatches: laid · WireApart: laid · WireMany: laid.
  DERIVED. THE GIVEN ROWS OF THIS SEAT. 5 by the template 'for every input the law returns true; each argument reads behind the call as it read before'; 0 by the template 'total and deterministic' (their statements: YtkgpnfjmahjlcaaDoorTotals.lean).
  GIVEN WITH THE SEED: the statements are not yours to turn. If you find one false, say at which input.
  Laid BY PROGRAM, IN A SANDBOX (cutbox-rows.mjs): the forced cells as the released guide's own fill.sh prints them over the translation 865b0a2988920a1d… (all of the seat's roots in one cut). By AI agents, Wed Nov 11 2026. No macro, syntax, notation, axiom, sorry.
-/
import Derived.Test.YtkgpnfjmahjlcaaDoorChecked
import GoSem.PinnedTables
import GoSem.Claim
import GoSem.ClaimJoined
import GoSem.ClaimMapViews
import Derived.JoinedTies
import Derived.KernelRfl
namespace Go.Proofs.YtkgpnfjmahjlcaaDoor
/- THE CELL 'sum', in the pinned program and in every row, IS THE sha256 OF THE DUMP (.gsa) THAT YtkgpnfjmahjlcaaDoorProg.lean LOADS. Nothing in Lean hashes anything: it is a label: what it is worth is what the hold of that sum in a sandbox is worth. -/
noncomputable def Tryd.pinned : Pinned := { name := "ytkgpnfjmahjlcaadoor", sum := "865b0a2988920a1de906ee7328deb5eaf0b5cdf5266289ed35aac5de0f2cbf3e", checked := Tryd.checked }
namespace Rows
def none {H : Type} : Left H := { results := [], args := [] }

/- WHAT THE LISTED PACKAGE-LEVEL VARIABLES READ AS WHEN THE CALL BEGINS. Each datum BY PROGRAM (the guide's laid-datum.mjs) off the statement by which the dump's own 'gosem.cut.vars' lays the variable. In a bare row this is a premise. The card (YtkgpnfjmahjlcaaDoorCards.lean) ties it to the program's text. -/
def laid_unicode_utf8_acceptRanges {H : Type} : DataW H := .agg [.agg [.lit (.int .u8 128), .lit (.int .u8 191)], .agg [.lit (.int .u8 160), .lit (.int .u8 191)], .agg [.lit (.int .u8 128), .lit (.int .u8 159)], .agg [.lit (.int .u8 144), .lit (.int .u8 191)], .agg [.lit (.int .u8 128), .lit (.int .u8 143)], .agg [.lit (.int .u8 0), .lit (.int .u8 0)], .agg [.lit (.int .u8 0), .lit (.int .u8 0)], .agg [.lit (.int .u8 0), .lit (.int .u8 0)], .agg [.lit (.int .u8 0), .lit (.int .u8 0)], .agg [.lit (.int .u8 0), .lit (.int .u8 0)], .agg [.lit (.int .u8 0), .lit (.int .u8 0)], .agg [.lit (.int .u8 0), .lit (.int .u8 0)], .agg [.lit (.int .u8 0), .lit (.int .u8 0)], .agg [.lit (.int .u8 0), .lit (.int .u8 0)], .agg [.lit (.int .u8 0), .lit (.int .u8 0)], .agg [.lit (.int .u8 0), .lit (.int .u8 0)]]
/-- One of Go's own tables, pinned by name: the form's constant. -/
def laid_unicode_utf8_first : DataW Unit := Go.Pinned.utf8First

/-- 'cambiumlaw17.WireSpans': WHATEVER THE INPUT: true; the input reads as it did. -/
def wireSpansSpec : ChangeSpec := { name := "wireSpans", fn := fun _ => fun
  | [d] => { results := [.lit (.bool true)], args := [d] }
  | _ => none }
def wireSpansRow : OpenClaim := { program := "ytkgpnfjmahjlcaadoor", sum := "865b0a2988920a1de906ee7328deb5eaf0b5cdf5266289ed35aac5de0f2cbf3e", func := "cambium/cambiumlaw17.WireSpans", spec := "wireSpans", unfollowed := true, recurses := true, named := ["unicode/utf8.first", "unicode/utf8.acceptRanges"], apart := false, laid := [("unicode/utf8.acceptRanges", laid_unicode_utf8_acceptRanges), ("unicode/utf8.first", laid_unicode_utf8_first)] }
def WireSpansSaid : Prop := wireSpansRow.holds Tryd.pinned (OpenSpec.ofChange wireSpansSpec)

/-- ITS FALSE NEIGHBOUR: 'it returns false'. Refute it at one input. -/
def wireSpansWrong : ChangeSpec := { name := "wireSpans", fn := fun _ => fun
  | [d] => { results := [.lit (.bool false)], args := [d] }
  | _ => none }
def WireSpansWrongFalsely : Prop := wireSpansRow.holds Tryd.pinned (OpenSpec.ofChange wireSpansWrong)

/-- 'cambiumlaw17.WireReads': WHATEVER THE INPUT: true; the input reads as it did. -/
def wireReadsSpec : ChangeSpec := { name := "wireReads", fn := fun _ => fun
  | [d] => { results := [.lit (.bool true)], args := [d] }
  | _ => none }
def wireReadsRow : OpenClaim := { program := "ytkgpnfjmahjlcaadoor", sum := "865b0a2988920a1de906ee7328deb5eaf0b5cdf5266289ed35aac5de0f2cbf3e", func := "cambium/cambiumlaw17.WireReads", spec := "wireReads", unfollowed := true, recurses := true, named := ["unicode/utf8.first", "unicode/utf8.acceptRanges"], apart := false, laid := [("unicode/utf8.acceptRanges", laid_unicode_utf8_acceptRanges), ("unicode/utf8.first", laid_unicode_utf8_first)] }
def WireReadsSaid : Prop := wireReadsRow.holds Tryd.pinned (OpenSpec.ofChange wireReadsSpec)

/-- ITS FALSE NEIGHBOUR: 'it returns false'. Refute it at one input. -/
def wireReadsWrong : ChangeSpec := { name := "wireReads", fn := fun _ => fun
  | [d] => { results := [.lit (.bool false)], args := [d] }
  | _ => none }
def WireReadsWrongFalsely : Prop := wireReadsRow.holds Tryd.pinned (OpenSpec.ofChange wireReadsWrong)

/-- 'cambiumlaw17.WireBatches': WHATEVER THE INPUT: true; the input reads as it did. -/
def wireBatchesSpec : ChangeSpec := { name := "wireBatches", fn := fun _ => fun
  | [d1, d2] => { results := [.lit (.bool true)], args := [d1, d2] }
  | _ => none }
def wireBatchesRow : OpenClaim := { program := "ytkgpnfjmahjlcaadoor", sum := "865b0a2988920a1de906ee7328deb5eaf0b5cdf5266289ed35aac5de0f2cbf3e", func := "cambium/cambiumlaw17.WireBatches", spec := "wireBatches", unfollowed := true, recurses := true, named := ["unicode/utf8.first", "unicode/utf8.acceptRanges"], apart := false, laid := [("unicode/utf8.acceptRanges", laid_unicode_utf8_acceptRanges), ("unicode/utf8.first", laid_unicode_utf8_first)] }
def WireBatchesSaid : Prop := wireBatchesRow.holds Tryd.pinned (OpenSpec.ofChange wireBatchesSpec)

/-- ITS FALSE NEIGHBOUR: 'it returns false'. Refute it at one input. -/
def wireBatchesWrong : ChangeSpec := { name := "wireBatches", fn := fun _ => fun
  | [d1, d2] => { results := [.lit (.bool false)], args := [d1, d2] }
  | _ => none }
def WireBatchesWrongFalsely : Prop := wireBatchesRow.holds Tryd.pinned (OpenSpec.ofChange wireBatchesWrong)

/-- 'cambiumlaw17.WireApart': WHATEVER THE INPUT: true; the input reads as it did. -/
def wireApartSpec : ChangeSpec := { name := "wireApart", fn := fun _ => fun
  | [d1, d2, d3] => { results := [.lit (.bool true)], args := [d1, d2, d3] }
  | _ => none }
def wireApartRow : OpenClaim := { program := "ytkgpnfjmahjlcaadoor", sum := "865b0a2988920a1de906ee7328deb5eaf0b5cdf5266289ed35aac5de0f2cbf3e", func := "cambium/cambiumlaw17.WireApart", spec := "wireApart", unfollowed := true, recurses := true, named := ["unicode/utf8.first", "unicode/utf8.acceptRanges"], apart := false, laid := [("unicode/utf8.acceptRanges", laid_unicode_utf8_acceptRanges), ("unicode/utf8.first", laid_unicode_utf8_first)] }
def WireApartSaid : Prop := wireApartRow.holds Tryd.pinned (OpenSpec.ofChange wireApartSpec)

/-- ITS FALSE NEIGHBOUR: 'it returns false'. Refute it at one input. -/
def wireApartWrong : ChangeSpec := { name := "wireApart", fn := fun _ => fun
  | [d1, d2, d3] => { results := [.lit (.bool false)], args := [d1, d2, d3] }
  | _ => none }
def WireApartWrongFalsely : Prop := wireApartRow.holds Tryd.pinned (OpenSpec.ofChange wireApartWrong)

/-- 'cambiumlaw17.WireMany': WHATEVER THE INPUT: true; the input reads as it did. -/
def wireManySpec : ChangeSpec := { name := "wireMany", fn := fun _ => fun
  | [d1, d2] => { results := [.lit (.bool true)], args := [d1, d2] }
  | _ => none }
def wireManyRow : OpenClaim := { program := "ytkgpnfjmahjlcaadoor", sum := "865b0a2988920a1de906ee7328deb5eaf0b5cdf5266289ed35aac5de0f2cbf3e", func := "cambium/cambiumlaw17.WireMany", spec := "wireMany", unfollowed := true, recurses := true, named := ["unicode/utf8.first", "unicode/utf8.acceptRanges"], apart := false, laid := [("unicode/utf8.acceptRanges", laid_unicode_utf8_acceptRanges), ("unicode/utf8.first", laid_unicode_utf8_first)] }
def WireManySaid : Prop := wireManyRow.holds Tryd.pinned (OpenSpec.ofChange wireManySpec)

/-- ITS FALSE NEIGHBOUR: 'it returns false'. Refute it at one input. -/
def wireManyWrong : ChangeSpec := { name := "wireMany", fn := fun _ => fun
  | [d1, d2] => { results := [.lit (.bool false)], args := [d1, d2] }
  | _ => none }
def WireManyWrongFalsely : Prop := wireManyRow.holds Tryd.pinned (OpenSpec.ofChange wireManyWrong)

/- THE SECOND FORM. 'bulk': how many values and letters a reading holds, each counted each time it is reached (what is shared counts as often as it is met; a slice's spare places count too). A statement '..UptoSaid' is the law's where the arguments, and the package variables that the reading takes, are together of bulk at most 1048576: NARROWER than '..Said'. Prove '..Said' where nothing that the law and all that it calls make is longer than what came in: it says more and counts as full. Else prove '..UptoSaid'. A law counts once. -/
mutual
def uptoBulk {H : Type} : DataW H → Nat
  | .lit (.string bytes) => bytes.length + 1
  | .lit _ => 1
  | .nil => 1
  | .ptr d => uptoBulk d + 1
  | .slice elems spare => uptoBulkAll elems + uptoBulkAll spare + 1
  | .agg parts => uptoBulkAll parts + 1
  | .iface _ d => uptoBulk d + 1
  | .map entries => uptoBulkEntries entries + 1
  | .held _ => 1
def uptoBulkAll {H : Type} : List (DataW H) → Nat
  | [] => 0
  | d :: r => uptoBulk d + uptoBulkAll r
def uptoBulkEntries {H : Type} : List (Lit × DataW H) → Nat
  | [] => 0
  | x :: r => uptoBulkEntry x + uptoBulkEntries r
def uptoBulkEntry {H : Type} : Lit × DataW H → Nat
  | (.string bytes, d) => bytes.length + uptoBulk d + 1
  | (_, d) => uptoBulk d + 1
 end
def uptoSmall : (H : Type) → List (DataW H) → Bool := fun _ ds => decide (uptoBulkAll ds ≤ 1048576)
def OpenSpec.upto (s : _root_.Go.ChangeSpec) : _root_.Go.OpenSpec := { _root_.Go.OpenSpec.ofChange s with cond := some uptoSmall }

/-- 'cambiumlaw17.WireSpans', WHERE WHAT IT READS IS OF BULK AT MOST 1048576: true; the input reads as it did. -/
def wireSpansUptoRow : OpenClaim := { program := "ytkgpnfjmahjlcaadoor", sum := "865b0a2988920a1de906ee7328deb5eaf0b5cdf5266289ed35aac5de0f2cbf3e", func := "cambium/cambiumlaw17.WireSpans", spec := "wireSpans", unfollowed := true, recurses := true, named := ["unicode/utf8.first", "unicode/utf8.acceptRanges"], apart := false, laid := [("unicode/utf8.acceptRanges", laid_unicode_utf8_acceptRanges), ("unicode/utf8.first", laid_unicode_utf8_first)], narrowed := true }
def WireSpansUptoSaid : Prop := wireSpansUptoRow.holds Tryd.pinned (OpenSpec.upto wireSpansSpec)

/-- 'cambiumlaw17.WireReads', WHERE WHAT IT READS IS OF BULK AT MOST 1048576: true; the input reads as it did. -/
def wireReadsUptoRow : OpenClaim := { program := "ytkgpnfjmahjlcaadoor", sum := "865b0a2988920a1de906ee7328deb5eaf0b5cdf5266289ed35aac5de0f2cbf3e", func := "cambium/cambiumlaw17.WireReads", spec := "wireReads", unfollowed := true, recurses := true, named := ["unicode/utf8.first", "unicode/utf8.acceptRanges"], apart := false, laid := [("unicode/utf8.acceptRanges", laid_unicode_utf8_acceptRanges), ("unicode/utf8.first", laid_unicode_utf8_first)], narrowed := true }
def WireReadsUptoSaid : Prop := wireReadsUptoRow.holds Tryd.pinned (OpenSpec.upto wireReadsSpec)

/-- 'cambiumlaw17.WireBatches', WHERE WHAT IT READS IS OF BULK AT MOST 1048576: true; the input reads as it did. -/
def wireBatchesUptoRow : OpenClaim := { program := "ytkgpnfjmahjlcaadoor", sum := "865b0a2988920a1de906ee7328deb5eaf0b5cdf5266289ed35aac5de0f2cbf3e", func := "cambium/cambiumlaw17.WireBatches", spec := "wireBatches", unfollowed := true, recurses := true, named := ["unicode/utf8.first", "unicode/utf8.acceptRanges"], apart := false, laid := [("unicode/utf8.acceptRanges", laid_unicode_utf8_acceptRanges), ("unicode/utf8.first", laid_unicode_utf8_first)], narrowed := true }
def WireBatchesUptoSaid : Prop := wireBatchesUptoRow.holds Tryd.pinned (OpenSpec.upto wireBatchesSpec)

/-- 'cambiumlaw17.WireApart', WHERE WHAT IT READS IS OF BULK AT MOST 1048576: true; the input reads as it did. -/
def wireApartUptoRow : OpenClaim := { program := "ytkgpnfjmahjlcaadoor", sum := "865b0a2988920a1de906ee7328deb5eaf0b5cdf5266289ed35aac5de0f2cbf3e", func := "cambium/cambiumlaw17.WireApart", spec := "wireApart", unfollowed := true, recurses := true, named := ["unicode/utf8.first", "unicode/utf8.acceptRanges"], apart := false, laid := [("unicode/utf8.acceptRanges", laid_unicode_utf8_acceptRanges), ("unicode/utf8.first", laid_unicode_utf8_first)], narrowed := true }
def WireApartUptoSaid : Prop := wireApartUptoRow.holds Tryd.pinned (OpenSpec.upto wireApartSpec)

/-- 'cambiumlaw17.WireMany', WHERE WHAT IT READS IS OF BULK AT MOST 1048576: true; the input reads as it did. -/
def wireManyUptoRow : OpenClaim := { program := "ytkgpnfjmahjlcaadoor", sum := "865b0a2988920a1de906ee7328deb5eaf0b5cdf5266289ed35aac5de0f2cbf3e", func := "cambium/cambiumlaw17.WireMany", spec := "wireMany", unfollowed := true, recurses := true, named := ["unicode/utf8.first", "unicode/utf8.acceptRanges"], apart := false, laid := [("unicode/utf8.acceptRanges", laid_unicode_utf8_acceptRanges), ("unicode/utf8.first", laid_unicode_utf8_first)], narrowed := true }
def WireManyUptoSaid : Prop := wireManyUptoRow.holds Tryd.pinned (OpenSpec.upto wireManySpec)

end Rows
end Go.Proofs.YtkgpnfjmahjlcaaDoor
