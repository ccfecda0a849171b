/-
  No cell of these rows narrows 'for every input' (looked for: loops, veiled, ifaces, maps, wideKeys, modest, calm, conditions, laid).
  DERIVED. THE GIVEN ROWS OF THIS SEAT. 4 by the template 'for every input the law returns true; each argument reads behind the call as it read before'; 0 by the template 'total and deterministic' (their statements: YtffggkhahambhaaTotals.lean).
  GIVEN WITH THE SEED: the statements are not yours to turn. If you find one false, say at which input.
  Laid BY PROGRAM, IN A SANDBOX (cutbox-rows.mjs): the forced cells as the released guide's own fill.sh prints them over the translation 8acf1f9c0e7c4a58… (all of the seat's roots in one cut). By AI agents, Wed Nov 11 2026. No macro, syntax, notation, axiom, sorry.
-/
import Derived.Test.YtffggkhahambhaaChecked
import GoSem.Claim
import GoSem.ClaimJoined
import GoSem.ClaimMapViews
import Derived.JoinedTies
import Derived.KernelRfl
namespace Go.Proofs.Ytffggkhahambhaa
/- THE CELL 'sum', in the pinned program and in every row, IS THE sha256 OF THE DUMP (.gsa) THAT YtffggkhahambhaaProg.lean LOADS. Nothing in Lean hashes anything: it is a label: what it is worth is what the hold of that sum in a sandbox is worth. -/
noncomputable def Try.pinned : Pinned := { name := "ytffggkhahambhaa", sum := "8acf1f9c0e7c4a58f2c976f59e4f88781185c661d21540ccb1419c836833185f", checked := Try.checked }
namespace Rows
def none {H : Type} : Left H := { results := [], args := [] }

/-- 'cambiumlaw22.FilterAll': WHATEVER THE INPUT: true; the input reads as it did. -/
def filterAllSpec : ChangeSpec := { name := "filterAll", fn := fun _ => fun
  | [d1, d2] => { results := [.lit (.bool true)], args := [d1, d2] }
  | _ => none }
def filterAllRow : OpenClaim := { program := "ytffggkhahambhaa", sum := "8acf1f9c0e7c4a58f2c976f59e4f88781185c661d21540ccb1419c836833185f", func := "cambium/cambiumlaw22.FilterAll", spec := "filterAll", inPlace := ["internal/bytealg.abigen_runtime_cmpstring", "internal/bytealg.Compare"], unfollowed := true, recurses := true, apart := false }
def FilterAllSaid : Prop := filterAllRow.holds Try.pinned (OpenSpec.ofChange filterAllSpec)

/-- ITS FALSE NEIGHBOUR: 'it returns false'. Refute it at one input. -/
def filterAllWrong : ChangeSpec := { name := "filterAll", fn := fun _ => fun
  | [d1, d2] => { results := [.lit (.bool false)], args := [d1, d2] }
  | _ => none }
def FilterAllWrongFalsely : Prop := filterAllRow.holds Try.pinned (OpenSpec.ofChange filterAllWrong)

/-- 'cambiumlaw22.FilterPairs': WHATEVER THE INPUT: true; the input reads as it did. -/
def filterPairsSpec : ChangeSpec := { name := "filterPairs", fn := fun _ => fun
  | [d1, d2] => { results := [.lit (.bool true)], args := [d1, d2] }
  | _ => none }
def filterPairsRow : OpenClaim := { program := "ytffggkhahambhaa", sum := "8acf1f9c0e7c4a58f2c976f59e4f88781185c661d21540ccb1419c836833185f", func := "cambium/cambiumlaw22.FilterPairs", spec := "filterPairs", inPlace := ["internal/bytealg.abigen_runtime_cmpstring", "internal/bytealg.Compare"], unfollowed := true, recurses := true, apart := false }
def FilterPairsSaid : Prop := filterPairsRow.holds Try.pinned (OpenSpec.ofChange filterPairsSpec)

/-- ITS FALSE NEIGHBOUR: 'it returns false'. Refute it at one input. -/
def filterPairsWrong : ChangeSpec := { name := "filterPairs", fn := fun _ => fun
  | [d1, d2] => { results := [.lit (.bool false)], args := [d1, d2] }
  | _ => none }
def FilterPairsWrongFalsely : Prop := filterPairsRow.holds Try.pinned (OpenSpec.ofChange filterPairsWrong)

/-- 'cambiumlaw22.FilterParts': WHATEVER THE INPUT: true; the input reads as it did. -/
def filterPartsSpec : ChangeSpec := { name := "filterParts", fn := fun _ => fun
  | [d1, d2, d3] => { results := [.lit (.bool true)], args := [d1, d2, d3] }
  | _ => none }
def filterPartsRow : OpenClaim := { program := "ytffggkhahambhaa", sum := "8acf1f9c0e7c4a58f2c976f59e4f88781185c661d21540ccb1419c836833185f", func := "cambium/cambiumlaw22.FilterParts", spec := "filterParts", inPlace := ["internal/bytealg.abigen_runtime_cmpstring", "internal/bytealg.Compare"], unfollowed := true, recurses := true, apart := false }
def FilterPartsSaid : Prop := filterPartsRow.holds Try.pinned (OpenSpec.ofChange filterPartsSpec)

/-- ITS FALSE NEIGHBOUR: 'it returns false'. Refute it at one input. -/
def filterPartsWrong : ChangeSpec := { name := "filterParts", fn := fun _ => fun
  | [d1, d2, d3] => { results := [.lit (.bool false)], args := [d1, d2, d3] }
  | _ => none }
def FilterPartsWrongFalsely : Prop := filterPartsRow.holds Try.pinned (OpenSpec.ofChange filterPartsWrong)

/-- 'cambiumlaw22.FilterOrder': WHATEVER THE INPUT: true; the input reads as it did. -/
def filterOrderSpec : ChangeSpec := { name := "filterOrder", fn := fun _ => fun
  | [d1, d2] => { results := [.lit (.bool true)], args := [d1, d2] }
  | _ => none }
def filterOrderRow : OpenClaim := { program := "ytffggkhahambhaa", sum := "8acf1f9c0e7c4a58f2c976f59e4f88781185c661d21540ccb1419c836833185f", func := "cambium/cambiumlaw22.FilterOrder", spec := "filterOrder", inPlace := ["internal/bytealg.abigen_runtime_cmpstring", "internal/bytealg.Compare"], unfollowed := true, recurses := true, apart := false }
def FilterOrderSaid : Prop := filterOrderRow.holds Try.pinned (OpenSpec.ofChange filterOrderSpec)

/-- ITS FALSE NEIGHBOUR: 'it returns false'. Refute it at one input. -/
def filterOrderWrong : ChangeSpec := { name := "filterOrder", fn := fun _ => fun
  | [d1, d2] => { results := [.lit (.bool false)], args := [d1, d2] }
  | _ => none }
def FilterOrderWrongFalsely : Prop := filterOrderRow.holds Try.pinned (OpenSpec.ofChange filterOrderWrong)

/- THE SECOND FORM. 'bulk': how many values and letters a reading holds, each counted each time it is reached (what is shared counts as often as it is met; a slice's spare places count too). A statement '..UptoSaid' is the law's where the arguments, and the package variables that the reading takes, are together of bulk at most 1048576: NARROWER than '..Said'. Prove '..Said' where nothing that the law and all that it calls make is longer than what came in: it says more and counts as full. Else prove '..UptoSaid'. A law counts once. -/
mutual
def uptoBulk {H : Type} : DataW H → Nat
  | .lit (.string bytes) => bytes.length + 1
  | .lit _ => 1
  | .nil => 1
  | .ptr d => uptoBulk d + 1
  | .slice elems spare => uptoBulkAll elems + uptoBulkAll spare + 1
  | .agg parts => uptoBulkAll parts + 1
  | .iface _ d => uptoBulk d + 1
  | .map entries => uptoBulkEntries entries + 1
  | .held _ => 1
def uptoBulkAll {H : Type} : List (DataW H) → Nat
  | [] => 0
  | d :: r => uptoBulk d + uptoBulkAll r
def uptoBulkEntries {H : Type} : List (Lit × DataW H) → Nat
  | [] => 0
  | x :: r => uptoBulkEntry x + uptoBulkEntries r
def uptoBulkEntry {H : Type} : Lit × DataW H → Nat
  | (.string bytes, d) => bytes.length + uptoBulk d + 1
  | (_, d) => uptoBulk d + 1
 end
def uptoSmall : (H : Type) → List (DataW H) → Bool := fun _ ds => decide (uptoBulkAll ds ≤ 1048576)
def OpenSpec.upto (s : _root_.Go.ChangeSpec) : _root_.Go.OpenSpec := { _root_.Go.OpenSpec.ofChange s with cond := some uptoSmall }

/-- 'cambiumlaw22.FilterAll', WHERE WHAT IT READS IS OF BULK AT MOST 1048576: true; the input reads as it did. -/
def filterAllUptoRow : OpenClaim := { program := "ytffggkhahambhaa", sum := "8acf1f9c0e7c4a58f2c976f59e4f88781185c661d21540ccb1419c836833185f", func := "cambium/cambiumlaw22.FilterAll", spec := "filterAll", inPlace := ["internal/bytealg.abigen_runtime_cmpstring", "internal/bytealg.Compare"], unfollowed := true, recurses := true, apart := false, narrowed := true }
def FilterAllUptoSaid : Prop := filterAllUptoRow.holds Try.pinned (OpenSpec.upto filterAllSpec)

/-- 'cambiumlaw22.FilterPairs', WHERE WHAT IT READS IS OF BULK AT MOST 1048576: true; the input reads as it did. -/
def filterPairsUptoRow : OpenClaim := { program := "ytffggkhahambhaa", sum := "8acf1f9c0e7c4a58f2c976f59e4f88781185c661d21540ccb1419c836833185f", func := "cambium/cambiumlaw22.FilterPairs", spec := "filterPairs", inPlace := ["internal/bytealg.abigen_runtime_cmpstring", "internal/bytealg.Compare"], unfollowed := true, recurses := true, apart := false, narrowed := true }
def FilterPairsUptoSaid : Prop := filterPairsUptoRow.holds Try.pinned (OpenSpec.upto filterPairsSpec)

/-- 'cambiumlaw22.FilterParts', WHERE WHAT IT READS IS OF BULK AT MOST 1048576: true; the input reads as it did. -/
def filterPartsUptoRow : OpenClaim := { program := "ytffggkhahambhaa", sum := "8acf1f9c0e7c4a58f2c976f59e4f88781185c661d21540ccb1419c836833185f", func := "cambium/cambiumlaw22.FilterParts", spec := "filterParts", inPlace := ["internal/bytealg.abigen_runtime_cmpstring", "internal/bytealg.Compare"], unfollowed := true, recurses := true, apart := false, narrowed := true }
def FilterPartsUptoSaid : Prop := filterPartsUptoRow.holds Try.pinned (OpenSpec.upto filterPartsSpec)

/-- 'cambiumlaw22.FilterOrder', WHERE WHAT IT READS IS OF BULK AT MOST 1048576: true; the input reads as it did. -/
def filterOrderUptoRow : OpenClaim := { program := "ytffggkhahambhaa", sum := "8acf1f9c0e7c4a58f2c976f59e4f88781185c661d21540ccb1419c836833185f", func := "cambium/cambiumlaw22.FilterOrder", spec := "filterOrder", inPlace := ["internal/bytealg.abigen_runtime_cmpstring", "internal/bytealg.Compare"], unfollowed := true, recurses := true, apart := false, narrowed := true }
def FilterOrderUptoSaid : Prop := filterOrderUptoRow.holds Try.pinned (OpenSpec.upto filterOrderSpec)

end Rows
end Go.Proofs.Ytffggkhahambhaa
