-- Written by a program: the kit's print.py, driven for several laws at once. Not trusted: Lean checks it.
import Derived.Test.YtmbhedlplmbfoaaProg
import Derived.Below
import Derived.Deep.Draws
import Derived.Deep.AppendLies
import Derived.Maps.AppendAt
import Derived.OwnWalk
import Derived.Laws.BytesArg
import Derived.Laws.MakeOwn
import Derived.Laws.OwnMore
import Derived.Deep.OwnRows
import Derived.Tactics
import Derived.Lib.ConvBytes
import Derived.Laws.Slices
import Derived.WalkKit
import Derived.KernelRfl
import Derived.RowKit3
import Derived.Deep.LoopGhost
import Derived.Deep.QuietTactic
import Derived.BigQuiet
import Derived.WideLaws
import Derived.Deep.DeepCutAuto
import Derived.Deep.CutBlock
import Derived.Deep.RegionHeld3
import Derived.Laws.Rows
import Derived.Lib.AppendStr
import Derived.ArgAppend
import Derived.Laws.IdiomCopy
import Derived.OrdersHeld
import Derived.Laws.BitsLemmas
import Derived.RowKit
import Derived.Test.YtmbhedlplmbfoaaWWords
import Derived.Test.YtmbhedlplmbfoaaWLast
import Derived.Test.YtmbhedlplmbfoaaWTab
import Derived.Test.YtmbhedlplmbfoaaWFour
import Derived.Test.YtmbhedlplmbfoaaWQPut
import Derived.Test.YtmbhedlplmbfoaaWApart
import Derived.Test.YtmbhedlplmbfoaaWArr
import Derived.Test.YtmbhedlplmbfoaaWZeros
import Derived.Test.YtmbhedlplmbfoaaWFoot
import Derived.Test.YtmbhedlplmbfoaaWKept
import Derived.Test.YtmbhedlplmbfoaaWShare
import Derived.Test.YtmbhedlplmbfoaaWN
import Derived.Test.YtmbhedlplmbfoaaWFootNe
import Derived.Test.YtmbhedlplmbfoaaWAt
import Derived.Test.YtmbhedlplmbfoaaWEqStruct
import Derived.Test.YtmbhedlplmbfoaaWRepsOne
import Derived.Test.YtmbhedlplmbfoaaWInv
import Derived.Test.YtmbhedlplmbfoaaWInvWords
import Derived.Test.YtmbhedlplmbfoaaWGuard
import Derived.Test.YtmbhedlplmbfoaaWNEv
import Derived.Test.YtmbhedlplmbfoaaWMore
namespace Go.Proofs.Ytmbhedlplmbfoaa.PLow
open Go.RowKit Go.Proofs.YtmbhedlplmbfoaaW.PrintWords Go.Proofs.YtmbhedlplmbfoaaW.PrintLast Go.Proofs.YtmbhedlplmbfoaaW.PrintMore
attribute [local go_sem] max2_int min2_int max_two min_two max_three min_three max_four min_four   -- for this text's walks alone
set_option linter.unusedVariables false
set_option linter.unusedSimpArgs false



def errW : Option Int → Value
  | none => .nilIface
  | some c => .iface 0 (.int .i64 c)
theorem errW_none : errW none = .nilIface := rfl
theorem errW_some (c : Int) : errW (some c) = .iface 0 (.int .i64 c) := rfl

theorem info5 : (Try.prog.info? 5).map (fun i => (i.zero, i.size, i.bytes)) = some (some (.int .u8 0), 1, 1) := by kernel_rfl
-- the values' own types

end Go.Proofs.Ytmbhedlplmbfoaa.PLow
