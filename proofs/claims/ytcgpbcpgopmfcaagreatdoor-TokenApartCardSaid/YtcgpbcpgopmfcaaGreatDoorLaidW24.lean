/- The settled world with the rows' laid variables (aggregates of whole numbers) laid: the witness of a tied row. No walk leans on what they hold. -/
import Derived.Test.YtcgpbcpgopmfcaaGreatDoorProg
import Derived.Test.YtcgpbcpgopmfcaaGreatDoorRows
import Derived.RowKit
import Derived.Lib.LaidIn
import Derived.KernelRfl
namespace Go.Proofs.YtcgpbcpgopmfcaaGreatDoor.LaidW
open Go Go.Proofs.YtcgpbcpgopmfcaaGreatDoor
/-- The cells of a datum of whole numbers. -/
noncomputable def cellsW : Nat → DataW Unit → List Value
  | 0, _ => []
  | _ + 1, .lit (.int k v) => [.int k v]
  | _ + 1, .lit (.bool b) => [.bool b]
  | n + 1, .agg ps => ps.flatMap (cellsW n)
  | _ + 1, _ => []
noncomputable abbrev laid : List (String × DataW Unit) := Rows.tokenTurnedRow.laid
noncomputable def place (n : String) : Nat := (Tryz.prog.globalNamed n).getD 0
set_option maxRecDepth 100000 in
noncomputable def laidWorld (os : Os) : World :=
  let w0 := World.holding Tryz.prog os ⟨#[], #[], []⟩
  { w0 with heap := laid.foldl (fun h x => h.modify (place x.1) fun
    | .cells _ t frozen => .cells (cellsW 9 x.2).toArray t frozen
    | o => o) w0.heap }
set_option maxRecDepth 100000 in
theorem laid_met (os : Os) (args : Array Value) : laidMet Tryz.prog laid ((laidWorld os).forCall (fun _ _ => 0) ⟨#[], args, []⟩).memory :=
  (LaidIn.of_run (l := laid) (laid.map fun x => place x.1) 8 (by kernel_rfl) (by kernel_rfl) (by kernel_rfl) (by kernel_rfl)).met
end Go.Proofs.YtcgpbcpgopmfcaaGreatDoor.LaidW
namespace Go.Proofs.YtcgpbcpgopmfcaaGreatDoor
/-- Nothing is asked of the tables. -/
abbrev Tabs (_w : World) : Prop := True
theorem LaidW.tabs_of {W : World} (_ : laidMet Tryz.prog LaidW.laid W) : Tabs W := trivial
end Go.Proofs.YtcgpbcpgopmfcaaGreatDoor
