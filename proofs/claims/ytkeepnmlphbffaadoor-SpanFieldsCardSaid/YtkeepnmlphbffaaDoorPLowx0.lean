-- Written by a program: the kit's print.py, driven for several laws at once. Not trusted: Lean checks it.
import Derived.Test.YtkeepnmlphbffaaDoorProg
import Derived.Below
import Derived.Deep.Draws
import Derived.Deep.AppendLies
import Derived.Maps.AppendAt
import Derived.OwnWalk
import Derived.Laws.BytesArg
import Derived.Laws.MakeOwn
import Derived.Laws.OwnMore
import Derived.Deep.OwnRows
import Derived.Tactics
import Derived.Lib.ConvBytes
import Derived.Laws.Slices
import Derived.WalkKit
import Derived.KernelRfl
import Derived.RowKit3
import Derived.Deep.LoopGhost
import Derived.Deep.QuietTactic
import Derived.BigQuiet
import Derived.WideLaws
import Derived.Deep.DeepCutAuto
import Derived.Deep.CutBlock
import Derived.Deep.RegionHeld3
import Derived.Laws.Rows
import Derived.Lib.AppendStr
import Derived.ArgAppend
import Derived.Laws.IdiomCopy
import Derived.OrdersHeld
import Derived.Laws.BitsLemmas
import Derived.RowKit
import Derived.Test.YtkeepnmlphbffaaDoorWWords
import Derived.Test.YtkeepnmlphbffaaDoorWLast
import Derived.Test.YtkeepnmlphbffaaDoorWTab
import Derived.Test.YtkeepnmlphbffaaDoorWFour
import Derived.Test.YtkeepnmlphbffaaDoorWQPut
import Derived.Test.YtkeepnmlphbffaaDoorWApart
import Derived.Test.YtkeepnmlphbffaaDoorWArr
import Derived.Test.YtkeepnmlphbffaaDoorWZeros
import Derived.Test.YtkeepnmlphbffaaDoorWFoot
import Derived.Test.YtkeepnmlphbffaaDoorWKept
import Derived.Test.YtkeepnmlphbffaaDoorWShare
import Derived.Test.YtkeepnmlphbffaaDoorWN
import Derived.Test.YtkeepnmlphbffaaDoorWFootNe
import Derived.Test.YtkeepnmlphbffaaDoorWAt
import Derived.Test.YtkeepnmlphbffaaDoorWEqStruct
import Derived.Test.YtkeepnmlphbffaaDoorWRepsOne
import Derived.Test.YtkeepnmlphbffaaDoorWInv
import Derived.Test.YtkeepnmlphbffaaDoorWInvWords
import Derived.Test.YtkeepnmlphbffaaDoorWGuard
import Derived.Test.YtkeepnmlphbffaaDoorWNEv
import Derived.Test.YtkeepnmlphbffaaDoorWMore
namespace Go.Proofs.YtkeepnmlphbffaaDoor.PLow
open Go.RowKit Go.Proofs.YtkeepnmlphbffaaDoorW.PrintWords Go.Proofs.YtkeepnmlphbffaaDoorW.PrintLast Go.Proofs.YtkeepnmlphbffaaDoorW.PrintMore
attribute [local go_sem] max2_int min2_int max_two min_two max_three min_three max_four min_four   -- for this text's walks alone
set_option linter.unusedVariables false
set_option linter.unusedSimpArgs false



def errW : Option Int → Value
  | none => .nilIface
  | some c => .iface 0 (.int .i64 c)
theorem errW_none : errW none = .nilIface := rfl
theorem errW_some (c : Int) : errW (some c) = .iface 0 (.int .i64 c) := rfl

-- the values' own types

end Go.Proofs.YtkeepnmlphbffaaDoor.PLow
